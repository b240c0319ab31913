/- Texts. No condition. -/
import Derived.Test.YtogcfijlhpaeeaaGreatYpaz
import Derived.Test.YtogcfijlhpaeeaaGreatYpav
open Go.RowKit Go.Proofs.Tryz
set_option linter.all false
set_option maxHeartbeats 32000000
namespace Go.Proofs.YtogcfijlhpaeeaaGreat
variable{k g i:Nat}{r b a:Int}{xt yt ty:TypeId}{c:aJ}{x y:Operand}{L M:List aa}{f:Nat->Value}{P:Program}{R:Value->List aa->Prop}{af:Array Edge}{gd:Option (Nat×Bool)}
section
structure gq(n:Nat)(st:aR)(ss:List Sh)(tl:List aj):Prop where
 n1:0<n
 n5:n<=5
 ls:st.sf.length=n
 lt:st.told.length=n
 sf:ss.map Sh.sf=st.sf++List.replicate (5-n) Sf.none
 told:tl=st.told++List.replicate (5-n) aj.zero
def eD(g:Nat)(c:aJ)(n:Nat)(st:aR):aa:=λh=>∃(ss:List Sh) (tl:List aj),gq n st ss tl/\aA [cL g c ss tl,dp c.w ss] h
theorem Ep(A B:aa)(L:List aa):Sub (A::B::L) (aA [A,B]::L):=
 ar (bl A (ar (bl B (iC _ (bW L))) (og (A:=B) (As:=[]) L))) (og (A:=A) (As:=[B]) L)
theorem Oh(A B:aa)(L:List aa):Sub (aA [A,B]::L) (A::B::L):=
 ar (oi (A:=A) (As:=[B]) L) (bl A (ar (oi (A:=B) (As:=[]) L) (bl B (ly L))))
theorem eD.cls{n:Nat}{st:aR}{ss:List Sh}{tl:List aj}(h:gq n st ss tl)(M:List aa):Sub (eD g c n st::M) (cL g c ss tl::dp c.w ss::M):=
 ar (jE (λx a=>⟨ss,tl,h,a⟩) (bW M)) (Oh _ _ M)
theorem eD.fn{k:FuncId}{args:Array Value}{n:Nat}{st:aR}(h:∀ss tl,gq n st ss tl->Fn P k args (cL g c ss tl::dp c.w ss::M) R):Fn P k args (eD g c n st::M) R:=λF w0 w r ⟨x,⟨ss,tl,b,a⟩,d,s⟩=>
 h ss tl b F w0 w r (Ep _ _ M w F ⟨x,a,d,s⟩)
section
variable{n:Nat}{st:aR}{ss:List Sh}{tl:List aj}
theorem gq.s5(h:gq n st ss tl):ss.length=5:=by have:=cn List.length h.sf;have a:=h.n5;simp only[bC,bo,ju,h.ls]at this;omega
theorem gq.t5(h:gq n st ss tl):tl.length=5:=by have a:=h.n5;rw[h.told,bo,ju,h.lt];omega
theorem gq.ok(h:gq n st ss tl){B:Nat}(c:st.Ok B):∀x∈ss,x.sf.Ok/\x.sf.all.length<=B:=λx hx=>by
 have b:x.sf∈st.sf++List.replicate (5-n) Sf.none:=by rw[<-h.sf];exact rj hx
 rcases ct.1 b with a|a
 ·exact c.s _ a
 ·rw[vc a];exact⟨bj _,eM _⟩
theorem gq.get(h:gq n st ss tl)(hi:i<n)(a:i<ss.length):st.sf.getD i Sf.none=(ss[i]'a).sf:=by
 have e:(ss.map Sh.sf)[i]?=some (ss[i]'a).sf:=by simp[a]
 rw[h.sf,qH (by rw[h.ls];exact hi)]at e;rw[cu,e];rfl
theorem gq.NZ(h:gq n st ss tl)(i:Nat):tl.getD i aj.zero=st.told.getD i aj.zero:=by
 rw[h.told,cu,cu];by_cases hi:i<st.told.length
 ·rw[qH hi]
 ·rw[AU U,pG (l:=st.told) U];simp only[List.getElem?_replicate];split<;>rfl
theorem gq.take(h:gq n st ss tl):tl.take n=st.told:=by rw[h.told,<-h.lt,jL]
theorem gq.set(h:gq n st ss tl){r:Nat}(a:r<n)(x:Sh)(y:Sf)(hy:x.sf=y):gq n ⟨st.told,st.sf.set r y⟩ (ss.set r x) tl:=
 ⟨h.n1,h.n5,by simp only[iw];exact h.ls,h.lt,by rw[oC,h.sf,DT _ _ (by rw[h.ls];exact a),hy],h.told⟩
theorem gq.Pa(h:gq n st ss tl){r:Nat}(a:r<n)(v:aj):gq n ⟨st.told.set r v,st.sf⟩ ss (tl.set r v):=
 ⟨h.n1,h.n5,h.ls,by simp only[iw];exact h.lt,h.sf,by rw[h.told,DT _ _ (by rw[h.lt];exact a)]⟩
theorem gq.cut(h:gq n st ss tl){b:List Sh}(f:qI ss (tl.take n) n b):gq n (st.eP n) b tl:=by
 have l:=h.n5;have g:=h.s5;have k:b.length=5:=f.1.trans g;refine⟨h.n1,h.n5,by rw[nD];exact h.ls,by rw[pI];exact h.lt,?_,by rw[pI];exact h.told⟩;refine sV (by rw[bC,bo,ju,nD,h.ls];omega) λi c j=>?_;rw[bC]at c;rw[gT,(f.2 i U c).2];have e:=h.sf;have a:(ss[i]'U).sf=(st.sf++List.replicate (5-n) Sf.none)[i]'(by rw[bo,ju,h.ls];omega):=by simp only[<-e,gT]
 by_cases hi:i<n
 ·rw[an hi,yg (by rw[nD,h.ls];exact hi)];have d:=aR.qQ st.told st.sf n i (by rw[h.ls];exact hi) (by rw[h.ls];exact bj _);rw[an hi]at d;rw[yg (by rw[h.ls];exact hi)]at a;rw[a,h.take];exact d.symm
 ·rw[ai hi,yR (by rw[nD,h.ls];omega),yw,a,yR (by rw[h.ls];omega),yw]
end
theorem Jb{n:Nat}{st:aR}{ss:List Sh}{tl:List aj}(a:gq n st ss tl)(r:Int)(c:aj):∀k,k<=n->gx ss r c k=st.mV r c k
 |0,_=>rfl
 |k+1,hk=>by have b:=a.s5;have d:=a.n5;simp only[gx,aR.mV];rw[Jb a r c k U,AA U,a.get U U]
theorem Va(g:Nat)(c:aJ)(n:Nat)(st:aR)(r:Int)(x:aj)(M:List aa)(d:(n:Int)=c.n)(e:st.Ok 1000000):Fn prog 206 #[.pointer (some ⟨g,0,none⟩),.int .i64 r,.agg (ab.cells x).toArray] (eD g c n st::M)
  λv L'=>∃u:Value,O1 u/\v=.tuple #[u,.int .i64 (st.dP r x).2]/\L'=aL u (st.dP r x).1::eD g c n st::M:=by
 refine eD.fn λss tl a=>?_;have hx:=a.ok e;refine(UE g c ss tl r n x M a.s5 d a.n5 (λx h=>⟨(hx x h).1,by have:=(hx x h).2;omega⟩)).res ?_;rintro v L' ⟨u,f,rfl,rfl⟩;have b:st.dP r x=(if 0<=r/\r<n then gx ss r x n else[],if 0<=r/\r<n then 0 else 23):=by
  unfold aR.dP aR.has;by_cases h:0<=r/\r<(n:Int)
  ·have h':0<=r/\r<(st.sf.length:Int):=by rw[a.ls];exact h
   rw[ai (λk=>k h'),an h,an h,Jb a r x _ (bj _),a.ls]
  ·have h':¬(0<=r/\r<(st.sf.length:Int)):=by rw[a.ls];exact h
   rw[an h',ai h,ai h]
 rw[b];exact⟨_,bl _ (eD.cls a M),u,f,rfl,rfl⟩
theorem Tu(g:Nat)(c:aJ)(n:Nat)(st:aR)(r:Int)(x:aj)(M:List aa)(i:(n:Int)=c.n)(j:st.Ok 1000000):Fn prog 207 #[.pointer (some ⟨g,0,none⟩),.int .i64 r,.agg (ab.cells x).toArray] (eD g c n st::M)
  λv L'=>v=.int .i64 (st.bK r x).1/\L'=eD g c n (st.bK r x).2::M:=by
 refine eD.fn λss tl a=>?_;have hx:=a.ok j;refine(Rk g c ss tl r n x M a.s5 a.t5 i a.n1 a.n5 (λx h=>⟨(hx x h).1,by have:=(hx x h).2;omega⟩)).res ?_;rintro v L' (⟨d,rfl,rfl⟩|⟨d,rfl,l,f,rfl⟩)
 ·have e:¬st.has r:=by unfold aR.has;rw[a.ls];exact d
  have b:st.bK r x=(23,st):=by unfold aR.bK;rw[an e]
  rw[b];exact⟨_,eD.cls a M,rfl,rfl⟩
 ·have e:st.has r:=by unfold aR.has;rw[a.ls];exact d
  have b:st.bK r x=(0,(⟨st.told.set r.toNat ((st.told.getD r.toNat aj.zero).join x),st.sf⟩:aR).eP n):=by unfold aR.bK;rw[ai (λk=>k e),a.ls]
  rw[b];rw[a.NZ]at f⊢
  exact⟨_,eD.cls ((a.Pa U _).cut f) M,rfl,rfl⟩
theorem T5(g:Nat)(c:aJ)(n:Nat)(st:aR)(r:Int)(u:Value)(l:List Ev)(M:List aa)(C:(n:Int)=c.n)(F:st.Ok 1000000)(H:aI M u l)(I:l.length<=1000000)(z:∀e∈l,cD e.n):Fn prog 204 #[.pointer (some ⟨g,0,none⟩),.int .i64 r,u] (eD g c n st::M)
  λv L'=>v=.tuple #[.int .i64 (st.push c.w r l).1,.int .i64 (st.push c.w r l).2.1]/\L'=eD g c n (st.push c.w r l).2.2::M:=by
 refine eD.fn λss tl a=>?_;have hx:=a.ok F;refine(Za g c ss tl u r n l M a.s5 a.t5 C a.n1 a.n5 (λx h=>⟨(hx x h).1,by have:=(hx x h).2;omega⟩) H U z).res ?_;have m:pf n r l↔(¬st.has r\/∃e∈l,e.r≠r):=by unfold pf aR.has;rw[a.ls]
 rintro v L' (⟨d,rfl,rfl⟩|⟨d,b,x,P,rfl,A⟩)
 ·have f:st.push c.w r l=(0,23,st):=by unfold aR.push;rw[an (m.1 d)]
  rw[f];exact⟨_,eD.cls a M,rfl,rfl⟩
 ·have L:0<=r/\r<(n:Int):=nW λk=>d (.inl k);have j:r.toNat<n:=U;have o:=a.get j b;have s:r.toNat<st.sf.length:=by rw[a.ls];exact j
  rcases A with⟨p,rfl,i⟩|⟨p,rfl,i⟩
  ·have f:st.push c.w r l=(0,(gJ c.w (ss[r.toNat]'b).sf l).1,st):=by unfold aR.push;rw[ai (λk=>d (m.2 k)),o];exact an p
   rw[f];have q:=a.set j x _ i;have y:st.sf.set r.toNat (ss[r.toNat]'b).sf=st.sf:=by rw[<-o,cu,gV s];exact qB _
   rw[y]at q;exact⟨_,eD.cls q M,rfl,rfl⟩
  ·rw[a.take]at i;have f:st.push c.w r l=(((x.sf.all.length:Nat):Int),(0:Int),(⟨st.told,st.sf.set r.toNat x.sf⟩:aR)):=by
    unfold aR.push;rw[ai (λk=>d (m.2 k)),o];refine(ai (λk=>k p)).trans ?_;simp only[Sf.put];have t:x.sf.all=(ss[r.toNat]'b).sf.all++(gJ c.w (ss[r.toNat]'b).sf l).2:=by rw[i];rfl
    rw[t];simp only[aR.cutAt,pD];have w:(st.sf.set r.toNat (⟨(ss[r.toNat]'b).sf.all++(gJ c.w (ss[r.toNat]'b).sf l).2,(ss[r.toNat]'b).sf.cut⟩:Sf)).getD r.toNat Sf.none=⟨(ss[r.toNat]'b).sf.all++(gJ c.w (ss[r.toNat]'b).sf l).2,(ss[r.toNat]'b).sf.cut⟩:=by simp[cu,s]
    rw[w,<-i]
   rw[f];exact⟨_,eD.cls (a.set j x _ rfl) M,rfl,rfl⟩
theorem Vm(c:aJ)(n:Nat)(M:List aa)(j:(n:Int)=c.n)(b:0<n)(d:n<=5):Fn prog 157 #[.agg (ab.cells c).toArray] M
  λv L'=>∃g:Nat,v=.pointer (some ⟨g,0,none⟩)/\L'=eD g c n ⟨List.replicate n aj.zero,List.replicate n Sf.none⟩::M:=by
 refine(QM c M).res ?_;rintro v L' ⟨g,ss,rfl,a,e,rfl⟩;refine⟨_,eD.cls (ss:=ss) (tl:=List.replicate 5 aj.zero) ⟨b,d,by simp,by simp,?_,?_⟩ M,g,rfl,rfl⟩
 ·rw[List.replicate_append_replicate,show n+(5-n)=5 by omega];refine sV (by simp[a]) λi f h=>?_;rw[gT,yw];exact e _ (bT _)
 ·rw[List.replicate_append_replicate,show n+(5-n)=5 by omega]
end
section
def iB(r sent:Int)(a:List Ev):List Ev:=a.filter λe=>decide (e.r=r)&&decide (sent<e.n)
theorem FR(r s:Int)(l:List Ev)(e:Ev):iB r s (l++[e])=if e.r=r/\s<e.n then iB r s l++[e]else iB r s l:=by
 unfold iB;rw[lD];by_cases h:e.r=r/\s<e.n
 ·rw[an h,ot,an (by simp[h])];rfl
 ·rw[ai h,ot,ai (by simpa using h)];simp
theorem Yc(r s:Int)(a b:List Ev):iB r s (a++b)=iB r s a++iB r s b:=lD ..
theorem Cz:∀(w:List Ev) (s t:Int),iV s w->s<=t->w.filter (λe=>decide (t<e.n))=w.drop (t-s).toNat
 |[],s,t,_,_=>by simp
 |e::w,s,t,h,ht=>by
  have d:e.n=s+1:=by have:=h 0 (by simp);simpa using this
  have a:iV (s+1) w:=by have:=h.drop 1 (by simp);simpa using this
  by_cases c:t=s
  ·subst c;have f:=Cz w (t+1) (t+1) a (eH _);rw[show(t-t).toNat=0 by omega,BP,List.filter_eq_self];intro x hx;obtain⟨j,b,rfl⟩:=zV.1 hx;have:=h j b;simp;omega
  ·rw[ot,ai (by simp;omega),Cz w (s+1) t a U,show(t-s).toNat=(t-(s+1)).toNat+1 by omega,List.drop_succ_cons]
theorem TH(r:Int){s t:Int}(h:s<=t)(l:List Ev):iB r t l=(iB r s l).filter λe=>decide (t<e.n):=by
 unfold iB;rw[sg];refine tX λe _=>?_;by_cases a:t<e.n
 ·have:s<e.n:=U;simp[a,this]
 ·simp[a]
theorem Xl(q r sent:Int)(o:0<=r/\r<5)(hs:0<=sent):∀(a:List Ev),lH a->(∀e∈a,0<=e.r/\e.r<5)->(cr a).get r.toNat-sent<=q->0<=q->ie q r sent a=iB r sent a:=by
 intro a
 induction a using oK with
 |h0=>intros;rfl
 |hs l e ih=>
  intro k c b g;obtain⟨f,m⟩:=sC.1 k;have n:e.n=(cr l).get e.r.toNat+1:=m.1;have j:=wq (cr l) e (c e (by simp)) r.toNat;rw[qv,j]at b;have d:∀e∈l,0<=e.r/\e.r<5:=λx hx=>c x (by simp[hx]);have i:(cr l).get r.toNat-sent<=q:=by split at b<;>omega
  have p:=(GC q r sent o hs l f d i g).1;rw[DX,FR,<-ih f d i g];unfold mK;split
  ·rename_i h;rw[h.1]at n b;rw[an rfl]at b;unfold gP;rw[ai U,an U]
  ·rfl
theorem Ag{st:aG}{x:aF}(h:(st.write x).2≠0):(st.write x).1.up=false:=(st.mq x).2 h
def jW(r:Int)(st:aG):Prop:=st.up=true->st.wait=iB r st.sent st.log
theorem jW.down{st:aG}(h:st.up=false):jW r st:=λa=>by rw[h]at a;cases a
theorem jW.start{k:Nat}{c:aJ}{r:Int}{st:aG}(g:cy k c r st)(h:jW r st):jW r (st.start c r).1:=by
 unfold aG.start;split
 ·exact h
 ·have hd:=g.dK;exactλ_=>Xl c.q r _ g.r5 hd.ia.1 _ hd.num (Ah hd.iZ) hd.ia.2.2 (by have:=g.cm.q;omega)
theorem jW.edit{k:Nat}{c:aJ}{r:Int}{st:aG}(g:cy k c r st)(h:jW r st)(e:Ed):jW r (st.edit c r e).1:=by
 unfold aG.edit;split
 ·exact h
 rename_i a;have a:st.dg c r e=0:=by simpa using a
 split
 ·rename_i d;exact jW.down (Ag d)
 rename_i d;rw[mZ (by simpa using d)];intro b;have b:st.up=true:=b;obtain⟨_,j,_⟩:=g.wait b;have f:¬c.q<=st.wait.length:=λf=>by
  unfold aG.dg at a;split at a
  ·cases a
  split at a
  ·rename_i i;exact i a
  cases a
 have l:(st.dm r e).n=st.aT.get r.toNat+1:=rfl;show(gP c.q st.sent st.wait (st.dm r e)).2=iB r st.sent (st.log++[st.dm r e]);rw[FR,an ⟨rfl,U⟩,<-h b];unfold gP;rw[ai f,an U]
theorem jW.take{st:aG}(g:cy k c r st)(h:jW r st)(f:aF×Int):jW r (st.dw c r f).1:=by
 unfold aG.dw;split
 ·exact h
 split
 ·exact h
 split
 ·exact h
 split
 ·exact h
 rename_i n;split
 ·unfold aG.iD;simp only;split
  ·exact h
  split
  ·rename_i b;exact jW.down (Ag b)
  rename_i q b;rw[mZ (by simpa using b)];intro a;have a:st.up=true:=a;obtain⟨m,p,_⟩:=g.wait a;have o:fC st.sent st.wait (max st.sent (min f.1.upto (st.aT.get r.toNat)))=max st.sent (min f.1.upto (st.aT.get r.toNat)):=by unfold fC;omega
  show st.wait.drop (fC st.sent st.wait _-st.sent).toNat=iB r (fC st.sent st.wait _) st.log;rw[o,TH r (s:=st.sent) U,<-h a,Cz _ _ _ m U]
 split
 ·unfold aG.jt;split
  ·exact h
  split
  ·exact h
  split
  ·rename_i b;exact jW.down (Ag b)
  rename_i b;rw[mZ (by simpa using b)];intro a;have a:st.up=true:=a;show st.wait=iB r st.sent (st.log++_);have:∀e∈(fJ st.aT (st.held++f.1.l)).1,¬e.r=r:=λe d i=>by
   rcases ct.1 ((yD _ _).1 e d)with hx|hx
   ·exact((g.held a).2 e hx).2.1 i
   ·exact n (eR.2 ⟨e,hx,by simp[i]⟩)
  have j:iB r st.sent (fJ st.aT (st.held++f.1.l)).1=[]:=List.filter_eq_nil_iff.2 λe d=>by simp[this e d]
  rw[Yc,j,ck];exact h a
 ·exact h
def oT(w:aD):Prop:=∀r:Int,w.has r->jW r (w.node r)
theorem oT.aZ{w:aD}(h:oT w){r:Int}(c:w.has r){s:aG}(d:jW r s):oT (w.aZ r s):=λq b=>by
 have a:=(zP w r s q).1 b;rw[pA c s q a.1];split
 ·rename_i e;rw[e];exact d
 ·exact h q a
theorem oT.step{k:Nat}{c:aJ}{w:aD}(g:bO k c w)(h:oT w)(s:cB):oT (w.step c s).1:=by
 have l:∀(v:aD) (d:Int) (f:aF×Int),bO k c v->oT v->oT (v.eJ c d f).1:=λv d f m b=>by
  unfold aD.eJ;split
  ·rename_i a;exact b.aZ a ((b d a).take (m.nd d a) f)
  ·simp only;split
   ·exact b
   ·exact b
 unfold aD.step;split
 ·unfold aD.eC;split
  ·have e:oT (if s.kind=5 then w else{w with fl:=dQ w.fl s.at_})/\bO k c (if s.kind=5 then w else{w with fl:=dQ w.fl s.at_}):=by
    split
    ·exact⟨h,g⟩
    ·exact⟨h,⟨g.n,g.nd,g.aO,by have:=g.fl.1;have:=tE w.fl s.at_;show(dQ w.fl s.at_).length<=k;omega,λy hy=>g.fl.2 y (vm hy)⟩⟩
   simp only;split
   ·exact e.1
   ·exact l _ _ _ e.2 e.1
  ·exact h
 split
 ·unfold aD.dj;split
  ·rename_i a;split
   ·exact h.aZ a (jW.down rfl)
   ·split
    ·exact h.aZ a ((h s.r a).start (g.nd s.r a))
    ·exact h.aZ a (h s.r a)
  ·split
   ·split
    ·exact h
    ·split
     ·exact h
     ·exact h
   ·exact h
 split
 ·exact h
 rename_i a;have a:w.has s.r:=Bs.1 a;have gn:=g.nd s.r a;have i:∀p,oT (w.send p).1:=λp=>by
  unfold aD.send;simp only;split
  ·exact h
  ·exact h
 split
 ·exact h.aZ a ((h s.r a).edit gn s.ed)
 split
 ·exact i _
 split
 ·exact i _
 split
 ·exact i _
 split
 ·refine h.aZ a ?_;unfold aG.state;split
  ·exact h s.r a
  split
  ·exact h s.r a
  split
  ·rename_i j;exact jW.down (Ag j)
  ·rename_i j;rw[mZ (by simpa using j)];exact h s.r a
 ·exact h
end
section
theorem IK(n:Nat):n<128^(vB n).length/\∀i c,(vB n)[i]?=some c->c.toNat%128=n/128^i%128/\(128<=c.toNat↔i+1<(vB n).length):=by
 by_cases h:n<128
 ·rw[qw h];refine⟨by simpa using h,λi c a=>?_⟩;cases i with
  |zero=>simp at a;subst a;simp;omega
  |succ i=>simp at a
 ·have b:=IK (n/128);rw[uk h];refine⟨?_,λi c a=>?_⟩
  ·have:=b.1;rw[dL,xM];exact(Nat.div_lt_iff_lt_mul U).1 this
  ·cases i with
   |zero=>
    have:=uO (n/128);simp at a;subst a;simp;omega
   |succ i=>have:=b.2 i c (by simpa using a);rw[this.1,this.2,xM,pE,<-EJ,dL];exact⟨rfl,U⟩
termination_by n
decreasing_by omega
theorem WE{z:Nat}(h:z<2^32):4294967295^^^z=4294967295-z:=by have:=cn BitVec.toNat (BitVec.xor_allOnes (x:=BitVec.ofNat 32 z));rw[D1,BitVec.toNat_not,zg,BitVec.toNat_allOnes,uB h,zc]at this;exact this
theorem Ib{d:Nat}{pos:String}(hx:aH f x=.int .u32 a)(hy:aH f y=.int .u32 b)(c:0<=a)(i:0<b)(h:a<=4294967295):
  aP P ⟨some d,.binOp .quo xt x y yt,ty,pos,af,gd⟩ f L (.int .u32 (a/b)):=by
 have e:0<=a/b:=FE c U;have g:a/b<=a:=Int.ediv_le_self b c;refine mc hx hy rfl (λw=>?_);simp[binOp,Op.intDiv,show b≠0 by omega,Dm c,wB e (show a/b<=4294967295 by omega)]
set_option maxRecDepth 20000 attribute [local irreducible] Ex aM Fn bI bJ bV fin meet ch aX bZ aP aN aI Rd aK Row ao Sub bk bP bS bN bg bR Hid bY
section
theorem NT(n:Nat)(M:List aa)(d:n<2^63):Fn prog 82 #[.int .u64 n] M λv L'=>O1 v/\L'=bB v (vB n)::M:=by
 refine fo func82 ntmps82 ?_;refine rn ?_;(repeat(first|intro(g:Nat)|intro(v:Value)|intro h));have l:=wR 9 n (by simpa using d) U;refine bF (L':=bB (.slice (some ⟨g,0,none⟩) 0 0) []::M) ?_ (cA (α:=UInt8) _ _ _);refine bm [0,3] (λq vs L'=>∃(m:Nat) (b:Value) (pre:List UInt8),m<2^63/\q=m/\vB n=pre++vB m/\b.oneCell'=true/\vs=[.int .u64 m,b]/\L'=bB b pre::M) n ⟨n,_,[],d,rfl,rfl,rfl,rfl,rfl⟩ ?_;rintro q vs i L' ⟨_,b,pre,k,rfl,a,p,rfl,rfl⟩;refine bp [0,3] rG (λj=>?_);have f:=cn List.length a;rw[bo]at f;have o:=uO q;by_cases c:q<128
 ·rw[qw c]at a;refine rn ?_;(repeat(first|intro(v:Value)|intro h));refine fr ?_;rw[a];exact⟨_,rB,by assumption,rfl⟩
 ·rw[uk c]at a;refine rn ?_;(repeat(first|intro(v:Value)|intro h));rw[qs U U,BR U U];refine rn ?_;(repeat(first|intro(v:Value)|intro h));refine cH J J J (Jt J J U U U) ?_;refine rn ?_;(repeat(first|intro(v:Value)|intro h));have e:((q:Int)%128+128).toNat=q%128+128:=U;rw[e,show((q:Int)/128)=((q/128:Nat):Int)by omega];exact aS ⟨q/128,bB v (pre++[UInt8.ofNat (q%128+128)])::M,U,rB,q/128,v,_,U,rfl,by rw[a];simp,by assumption,av rfl (av rfl rfl),rfl⟩
theorem Av(n:Nat)(q:List UInt8)(v0:Value)(M:List aa)(y:aI M v0 (vB n++q))(x:n<2^56)(F:q.length<=1000000000):Fn prog 256 #[v0] M λv L'=>v=.tuple #[.int .u64 n,.int .i64 (vB n).length,.int .i64 0]/\L'=M:=by
 have s:=wR 8 n (by simpa using x) U;have t:=uO n;obtain⟨p,j⟩:=IK n;obtain⟨b,c⟩:∃b,b=vB n++q:=⟨_,rfl⟩;have u:b.length=(vB n).length+q.length:=by rw[c,bo]
 have f:b.take (vB n).length=vB n:=by rw[c,jL]
 obtain⟨a,e⟩:∃a,a=(vB n).length:=⟨_,rfl⟩;have g:∀i (h:i<b.length),i<a->(b[i]'h).toNat%128=n/128^i%128/\(128<=(b[i]'h).toNat↔i+1<a):=λi h hi=>by
  have:(vB n)[i]?=some (b[i]'h):=by rw[<-f,mz,an U,gV h]
  rw[e];exact j i _ this
 rw[<-c]at y;rw[<-e]at p s t u f⊢
 clear j c e;refine fo func256 ntmps256 ?_;refine rn ?_;intros;refine ll [6] (λm vs=>∃k:Nat,k<a/\m=a-k/\vs=[.int .i64 k]) a ⟨0,U,rfl,rfl⟩ ?_;rintro m vs z ⟨k,w,rfl,rfl⟩;have o:k<b.length:=U;obtain⟨_,d⟩:=g k o w;by_cases l:k+1<a
 ·have r:=d.2 l;clear g d;refine rn ?_;intros;exact aS ⟨a-(k+1),_,U,bW _,⟨k+1,U,rfl,av (aQ U) rfl⟩,rfl⟩
 ·have r:¬128<=(b[k]'o).toNat:=λh=>l (d.1 h);clear d;refine rn ?_;intros;refine ll [7,8] (λm vs=>∃i:Nat,i<=a/\m=i/\vs=[.int .u64 (n/128^i:Nat),.int .i64 ((i:Int)-1)]) a ⟨a,U,rfl,av (by rw[Nat.div_eq_of_lt p];rfl) (av (aQ U) rfl)⟩ ?_;rintro m vs A ⟨i,hi,rfl,rfl⟩;have H:n/128^m<=n:=Nat.div_le_self _ _;cases m with
  |zero=>
   rw[Nat.pow_zero,Nat.div_one];have I:¬vB n≠List.take ((k:Int)+1).toNat b:=by rw[show((k:Int)+1).toNat=a by omega,f];simp
   refine rn ?_;intros;refine Ex.Af 9 [2] _ rfl rQ (eb _) ?_;refine mn ?_;intros;refine ma [] call82 (NT n _ U) ?_;rintro Q _ ⟨P,rfl⟩;refine mw ?_;intros;refine bX J J J ?_;refine cH J J J rV ?_;refine bn ?_;refine br rF ?_;refine mn ?_;intros;refine rn ?_;intros;refine fr ?_;exact⟨_,rB,by rw[show(a:Int)=(k:Int)+1 by omega],rfl⟩
  |succ i=>
   obtain⟨C,_⟩:=g i U U;have L:n/128^(i+1)*128+n/128^i%128=n/128^i:=by rw[xM,<-EJ];omega
   rw[show(((i+1:Nat):Int)-1)=i by omega];refine rn ?_;intros;rw[qs (show(0:Int)<=((n/128^(i+1):Nat):Int)*128 by omega) U,qs U U];exact aS ⟨i,_,U,bW _,⟨i,U,rfl,av (aQ U) (av (aQ U) rfl)⟩,rfl⟩
theorem VZ(r:Nat)(c:UInt8)(M:List aa)(b:r<2^32):Fn prog 220 #[.int .u32 r,.int .u8 c.toNat] M λv L'=>v=.int .u32 (kD r c)/\L'=M:=by
 have l:=c.toNat_lt;have hx:=u32_xor b (show c.toNat<2^32 by omega);have g:r^^^c.toNat<2^32:=vS b U;refine fo func220 ntmps220 ?_;refine rn ?_;intros;rw[hx];refine bm [0,5] (λq vs L'=>∃(k:Nat),k<=8/\q=8-k/\vs=[.int .u32 (gE k (r^^^c.toNat)),.int .i64 k]/\L'=M) 8 ⟨0,U,rfl,rfl,rfl⟩ ?_;rintro q vs i h ⟨k,m,rfl,rfl,rfl⟩;refine bp [0,5] rG (λj=>?_);have e:=zf g k;by_cases n:k<8
 ·have a:gE (k+1) (r^^^c.toNat)=jK (gE k (r^^^c.toNat)):=rfl;generalize gE k (r^^^c.toNat)=z at e a⊢
  refine rn ?_;intros;refine cH J J J (Ib J J U U U) ?_;rw[show((z:Int)/2)=((z/2:Nat):Int)by omega];by_cases d:z%2=1
  ·rw[jK,an d]at a;have f:=u32_xor (show z/2<2^32 by omega) (show 3988292384<2^32 by decide);refine rn ?_;intros;exact aS ⟨8-(k+1),_,U,bW _,k+1,U,rfl,by rw[a,<-f];exact av rfl (av (aQ U) rfl),rfl⟩
  ·rw[jK,ai d]at a;refine rn ?_;intros;exact aS ⟨8-(k+1),_,U,bW _,k+1,U,rfl,by rw[a];exact av rfl (av (aQ U) rfl),rfl⟩
 ·obtain rfl:k=8:=U;refine rn ?_;intros;refine fr ?_;exact⟨_,bW _,rfl,rfl⟩
theorem Yk(v0:Value)(l:List UInt8)(M:List aa)(i:aI M v0 l)(h:l.length<=1000000000):Fn prog 152 #[v0] M λv L'=>v=.int .u32 (kP l)/\L'=M:=by
 refine fo func152 ntmps152 ?_;refine rn ?_;intros;refine bm [3,4] (λq vs L'=>∃(k:Nat),k<=l.length/\q=l.length-k/\vs=[.int .u32 ((l.take k).foldl kD 4294967295:Nat),.int .i64 k]/\L'=M) l.length ⟨0,U,rfl,rfl,rfl⟩ ?_;rintro q vs e d ⟨k,g,rfl,rfl,rfl⟩;refine bp [0,3,4] rG (λf=>?_);have b:=Cj (show 4294967295<2^32 by decide) (l.take k);by_cases c:k<l.length
 ·have a:(l.take (k+1)).foldl kD 4294967295=kD ((l.take k).foldl kD 4294967295) (l[k]'c):=by rw[da c,js];rfl
  generalize (l.take k).foldl kD 4294967295=z at b a⊢
  refine rn ?_;intros;refine ca [] call220 (VZ z (l[k]'c) _ b) ?_;rintro _ _ ⟨rfl,rfl⟩;refine rn ?_;intros;exact aS ⟨l.length-(k+1),_,U,rB,k+1,U,rfl,by rw[a];exact av rfl (av (aQ U) rfl),rfl⟩
 ·obtain rfl:k=l.length:=U;rw[dI]at b⊢
  have a:=WE b;unfold kP;rw[a];refine rn ?_;intros;refine fr ?_;exact⟨_,rB,aQ (by rw[wB U U];omega),rfl⟩
theorem Dt(v0:Value)(l:List UInt8)(M:List aa)(p:aI M v0 l)(b:l.length<=1000000000):Fn prog 84 #[v0] M λv L'=>O1 v/\L'=bB v (dN l)::M:=by
 have r:=CX l;refine fo func84 ntmps84 ?_;refine rn ?_;(repeat(first|intro(v:Value)|intro(o:O1 _)|intro h));refine bc [] J call152 J J (Yk v0 l _ rD b) ?_;rintro _ M ⟨rfl,rfl⟩;refine rn ?_;(repeat(first|intro(v:Value)|intro(o:O1 _)|intro h));refine bF (L':=bB v l::M) ?_ rB;have a:∀k,k<4->l++(lY l).take (k+1)=l++(lY l).take k++[UInt8.ofNat (kP l/256^k%256)]:=λk a=>by have:k=0\/k=1\/k=2\/k=3:=U;rw[dB];rcases this with rfl|rfl|rfl|rfl<;>rfl
 refine bm [3,4,5] (λq vs L'=>∃(k:Nat) (v:Value),k<=4/\q=4-k/\v.oneCell'=true/\vs=[.int .u32 (kP l/256^k:Nat),v,.int .i64 k]/\L'=bB v (l++(lY l).take k)::M) 4 ⟨0,v,U,rfl,o,by simp,by simp⟩ ?_;rintro q vs j g ⟨k,s,n,rfl,f,rfl,rfl⟩;refine bp [3,4,5] rG (λm=>?_);by_cases e:k<4
 ·have a:=a k e;have hd:kP l/256^(k+1)=kP l/256^k/256:=by rw[xM,<-EJ]
  have c:kP l/256^k<=kP l:=Nat.div_le_self _ _;have d:(l++(lY l).take k).length<=l.length+4:=by rw[bo,dy,Aa];omega
  generalize l++(lY l).take k=i at a d⊢
  generalize kP l/256^k=z at a hd c⊢
  refine rn ?_;(repeat(first|intro(v:Value)|intro h));refine cH J J J (Ib J J U U U) ?_;refine rn ?_;(repeat(first|intro(v:Value)|intro h));refine aS ⟨4-(k+1),bB v (l++(lY l).take (k+1))::M,U,?_,k+1,v,U,rfl,by assumption,av (aQ U) (av rfl (av (aQ U) rfl)),rfl⟩;rw[a,show((z:Int)%256).toNat=z%256 by omega];exact rB
 ·obtain rfl:k=4:=U;refine rn ?_;intros;refine fr ?_;exact⟨_,rB,f,rfl⟩
theorem QS(l:List UInt8):gL l=if dN (l.take (l.length-4))=l/\4<=l.length then some (l.take (l.length-4))else none:=by
 split
 ·rename_i h;have:=uU (l.take (l.length-4));rwa[h.1]at this
 ·rename_i h;cases hc:gL l with
  |none=>rfl
  |some b=>
   exfalso;have a:=EV hc;have c:=nJ b;rw[<-a]at c;have:l.take (l.length-4)=b:=by rw[c,show b.length+4-4=b.length by omega,a];unfold dN;rw[jL]
   exact h ⟨by rw[this];exact a.symm,U⟩
theorem S0(v0:Value)(l:List UInt8)(M:List aa)(i:aI M v0 l)(f:l.length<=1000000000):Fn prog 255 #[v0] M λv L'=>(gL l=none/\v=.tuple #[.slice none 0 0,.bool false]/\L'=M)\/∃b u,gL l=some b/\O1 u/\v=.tuple #[u,.bool true]/\L'=bB u b::M:=by
 rw[QS];refine fo func255 ntmps255 ?_;by_cases e:l.length<4
 ·rw[ai U];refine rn ?_;intros;refine mX ?_;intros;refine rn ?_;intros;refine fr ?_;exact⟨_,rB,.inl ⟨rfl,rfl,rfl⟩⟩
 ·obtain⟨n,c⟩:∃n:Nat,(n:Int)=(l.length:Int)-4:=⟨l.length-4,U⟩;rw[show l.length-4=n by omega];refine rn ?_;intros;rw[<-c];refine Ex.Af 12 [7] _ rfl rQ (eb _) ?_;refine mn ?_;intros;rw[dc];refine bX J J J ?_;refine bc [] J call84 rE J (Dt _ (List.take n l) _ rD (by rw[dy];omega)) ?_;rintro k d ⟨j,rfl⟩;by_cases a:dN (List.take n l)=l
  ·rw[an ⟨a,U⟩];have g:¬dN (List.take n l)≠l:=λh=>h a;refine mw ?_;intros;refine bX J J J ?_;refine cH J J J rV ?_;refine bn ?_;refine br rF ?_;refine mn ?_;intros;refine rn ?_;intros;rw[dc];refine fr ?_;exact⟨_,rB,.inr ⟨_,_,rfl,by assumption,rfl,rfl⟩⟩
  ·rw[ai (λh=>a h.1)];refine mw ?_;intros;refine bX J J J ?_;refine cH J J J rV ?_;refine bn ?_;refine br rF ?_;refine mn ?_;intros;refine rn ?_;intros;refine fr ?_;exact⟨_,rB,.inl ⟨rfl,rfl,rfl⟩⟩
end
end
end Go.Proofs.YtogcfijlhpaeeaaGreat
