/- Texts. No condition. -/
import Derived.Test.YtogcfijlhpaeeaaGreatYpaw
import Derived.Test.YtogcfijlhpaeeaaGreatYpbj
open Go.RowKit Go.Proofs.Tryz
set_option linter.all false
set_option maxHeartbeats 32000000
namespace Go.Proofs.YtogcfijlhpaeeaaGreat
variable{k g n:Nat}{c:aJ}{L M:List aa}{w:aD}{f:Nat->Value}{P:Program}{Q:bx}{fl:List Fk}
section
theorem Jp(n:Int)(l:List cB)(h:∀s∈l,s.In):∀s∈pX n l,s.Ok:=by intro s b;unfold pX at b;obtain⟨x,hx,rfl⟩:=fA.1 b;have a:=h x (mM hx);have c:=Np x.ed;exact⟨a.bit,a.mask,by show x.ed.fit.key.length<=_;omega,by show x.ed.fit.value.length<=_;omega⟩
theorem Ko(n:Int)(l:List cB):(pX n l).length<=60:=by unfold pX;rw[bC,dy];omega
theorem X5{s:cB}(g:s.kind=7)(i:0<=s.at_/\s.at_<w.fl.length)
  (j:ib (w.fl.getD s.at_.toNat (0,aF.zero)).2.bu (s.bit%(8*(w.fl.getD s.at_.toNat (0,aF.zero)).2.bu.length)).toNat s.mask.toNat≠(w.fl.getD s.at_.toNat (0,aF.zero)).2.bu):
  ((w.step c s).2=4\/(w.step c s).2=18)/\(w.step c s).1.aO=w.aO/\(w.step c s).1.nodes=w.nodes:=by
 have e:w.step c s=({w with fl:=dQ w.fl s.at_}:aD).eJ c (w.fl.getD s.at_.toNat (0,aF.zero)).1 (aF.zero,4):=by unfold aD.step aD.eC;rw[an U,an i];simp only;rw[ai U,ai U,an g];unfold kE;rw[ai j]
 rw[e];generalize (w.fl.getD s.at_.toNat (0,aF.zero)).1=f;have d:∀(st:aG) (r:Int),(st.dw c r (aF.zero,4)).1=st/\((st.dw c r (aF.zero,4)).2=4\/(st.dw c r (aF.zero,4)).2=18):=λst r=>by
  unfold aG.dw;split
  ·exact⟨rfl,.inr rfl⟩
  ·rw[an (by simp)];exact⟨rfl,.inl rfl⟩
 have a:∀(st:aY),(st.take c (aF.zero,4)).1=st/\((st.take c (aF.zero,4)).2.2.2=4\/(st.take c (aF.zero,4)).2.2.2=18):=λst=>by
  unfold aY.take;split
  ·exact⟨rfl,.inr rfl⟩
  ·rw[an (by simp)];exact⟨rfl,.inl rfl⟩
 unfold aD.eJ;split
 ·simp only;rw[(d _ f).1];exact⟨(d _ f).2,rfl,tL _ _ _⟩
 ·simp only;refine⟨(a _).2,?_,?_⟩
  ·rw[ai (λh=>by rcases(a w.aO).2 with b|b<;>(rw[b]at h;cases h.1))];exact(a _).1
  ·split<;>rfl
theorem cF.ex{c:Code}
  (h:∀v0 fs bs,O1 v0->fs.map Fl.key=fl->(∀f∈fs,f.b∈bs)->Ex P k c Q f (gD g v0::dH v0 fs::cE bs::M)):Ex P k c Q f (cF g fl::M):=λD F w0 f0 ws a w ⟨r,i,⟨x,⟨v0,fs,bs,o,e,m,b⟩,d,s⟩,kk⟩ hc=>
 h v0 fs bs o e m D F w0 f0 ws a w ⟨r,i,ky [gD g v0,dH v0 fs,cE bs] M w F ⟨x,b,d,s⟩,kk⟩ hc
theorem Ex.wc{c y z:Code}(k:Nat)(ss:List Nat)(I:List Value->List aa->Prop)(hy:∀vs g L',I vs L'->Ex P n (qq k z) Q (lA g ss vs) L')
  (hx:(∀f L,(∃L',Sub L' L/\I (ss.map f) L')->Ex P n (Hid (qq k z)) Q f L)->Ex P n c (bI P n y (bI P n (sr k z) Q)) f L):Ex P n c (bI P n y (bI P n z Q)) f L:=by
 rw[uJ]at hx;refine hx λf L ⟨L',a,h⟩=>?_;have:=hy _ f L' h;rw[oW]at this;exact bF this a
def IG(w:aD)(s:cB):Prop:=s.kind=7/\(0<=s.at_/\s.at_<w.fl.length)/\ib (w.fl.getD s.at_.toNat (0,aF.zero)).2.bu (s.bit%(8*(w.fl.getD s.at_.toNat (0,aF.zero)).2.bu.length)).toNat s.mask.toNat≠(w.fl.getD s.at_.toNat (0,aF.zero)).2.bu
def DY(x:cB):cB:=⟨7,0,⟨0,[],0,[]⟩,x.at_,x.bit,x.mask,0⟩
set_option maxRecDepth 20000 attribute [local irreducible] Ex aM Fn bI bJ bV fin meet ch aX bZ aP aN aI Rd aK Row ao Sub bk bP bS bN bg bR Hid bY
section
attribute [local irreducible] aA bD bL cx cQ bz aV.own fp.own wS bA cc cF cv cE dr
theorem Uk(c0:aJ)(v1:Value)(l:List cB)(x:cB)(M:List aa)(hr:aI M v1 l)(o1:O1 v1)(hl:l.length<=140737488351232)(hs:∀s∈l,s.In)(hx:x.In):
  Fn prog 3 #[.agg (ab.cells c0).toArray,v1,.agg (ab.cells x).toArray] M λv L'=>v=.bool true/\L'=M:=by
 obtain⟨c,hc⟩:∃c,c=xd c0:=⟨_,rfl⟩;have hm:c.aW:=by rw[hc];exact Iy c0
 have D9:=hm.n;obtain⟨N,d7⟩:∃N:Nat,c.n=N:=⟨c.n.toNat,U⟩;refine fo func3 ntmps3 ?_;refine rn ?_;(repeat(first|intro(g:Nat)|intro(v:Value)|intro h));revert g;intro g5;refine ca [] call10 (Jv _) ?_;rintro _ _ ⟨rfl,rfl⟩;refine rn ?_;(repeat(first|intro(g:Nat)|intro(v:Value)|intro h));refine ca [] call11 (Km c0 _) ?_;rintro _ _ ⟨rfl,rfl⟩;rw[<-hc];refine rn ?_;(repeat(first|intro(g:Nat)|intro(v:Value)|intro h));revert g;intro m;refine ca [] call12 (MB c _ hm) ?_;rintro _ _ ⟨d,f,rfl,rfl⟩;have q0:=QI.new hm;refine rn ?_;(repeat(first|intro(g:Nat)|intro(v:Value)|intro h));refine bF (L':=bz d c (aD.new c)::dr f c (aD.new c)::ao m 23 (ab.cells c)::ao g5 29 (ab.cells x)::M) ?_ rP;refine tR ?_;(repeat(first|intro(g:Nat)|intro(v:Value)|intro h));rw[d7];refine bX J J J ?_;refine bc [] J call13 rE J (KG v1 l N _ rD o1 U U (λs h=>⟨by have:=(hs s h).key;omega,by have:=(hs s h).value;omega⟩)) ?_;rintro H7 _ ⟨G9,rfl⟩;have e8:=Jp N l hs;have m7:=Ko N l;obtain⟨S1,j8⟩:∃S1,S1=pX N l:=⟨_,rfl⟩;rw[<-j8]at e8 m7⊢
 refine bn ?_;refine br rF ?_;refine mn ?_;(repeat(first|intro(g:Nat)|intro(v:Value)|intro h));refine xr (a:=DY x) J J J J (λg=>?_);refine mn ?_;(repeat(first|intro(g:Nat)|intro(v:Value)|intro h));refine rn ?_;(repeat(first|intro(g:Nat)|intro(v:Value)|intro h));have y7:(DY x).Ok:=⟨hx.bit,hx.mask,by show(0:Nat)<=1000;omega,by show(0:Nat)<=1000;omega⟩;obtain⟨b,P⟩:∃b,b=S1++[DY x]:=⟨_,rfl⟩;have w9:∀s∈b,s.Ok:=λs h=>by
  rw[P]at h;rcases ct.1 h with h|h
  ·exact e8 s h
  ·rw[mJ.1 h];exact y7
 have F8:b.length<=61:=by rw[P,bo,oV];omega
 rw[<-P];refine bF (L':=bz d c (aD.new c)::dr f c (aD.new c)::ao m 23 (ab.cells c)::aK v 29 b::M) ?_ rP;clear P e8 m7 j8;refine bm [12] (λz vs L'=>∃(j:Nat) (w:aD),j<=b.length/\z=b.length-j/\QI j c w/\vs=[.int .i64 j]/\L'=bz d c w::dr f c w::ao m 23 (ab.cells c)::aK v 29 b::M) b.length ⟨0,aD.new c,U,rfl,q0,rfl,rfl⟩ ?_;rintro z vs g1 L1 ⟨j,w,hj,rfl,H,rfl,rfl⟩;refine bp [8,9,10,11,12] rG (λgk=>?_);by_cases n:j<b.length
 ·have A:=w9 (b[j]'n) (bT n);obtain⟨s,o⟩:∃s,s=b[j]'n:=⟨_,rfl⟩;rw[<-o]at A;refine rn ?_;(repeat(first|intro(g:Nat)|intro(v:Value)|intro h));refine Ex.wc 0 [8,9,10,11,12,13] (λvs L'=>∃I:Bool,(I=true->IG w s)/\vs=[ay m,ay d,ay f,v,.int .i64 j,.bool I]/\L'=bz d c w::dr f c w::ao m 23 (ab.cells c)::aK v 29 b::M) ?_ ?_
  rotate_left
  ·intro t;have ok:=H.gd.ok U;obtain⟨w6,F6,E6⟩:=yF ok;refine fh [1] rE ?_;refine dr.ex λgh gl vs gs ov u9=>?_;refine bF (L':=cF gl w.keys::cY f c gh gl vs::di vs gs::aA (cv c gs w.nodes)::cc gh c w.aO::bz d c w::ao m 23 (ab.cells c)::aK v 29 b::M) ?_ rP;refine cF.ex λv0 fs bs o0 ek mb=>?_;have E7:fs.length=w.fl.length:=by rw[<-w6,<-ek,bC]
   have u7:∀N,Sub (dr f c w::N) (gD gl v0::dH v0 fs::cE bs::cY f c gh gl vs::di vs gs::aA (cv c gs w.nodes)::cc gh c w.aO::N):=λN=>
    ar (nS ov u9 N) (ar (B:=cF gl w.keys::cY f c gh gl vs::di vs gs::aA (cv c gs w.nodes)::cc gh c w.aO::N) rP (ar (xI o0 ek mb _) rP))
   have u:Sub (bz d c w::dr f c w::ao m 23 (ab.cells c)::aK v 29 b::M) (aK v 29 b::cY f c gh gl vs::gD gl v0::dH v0 fs::cE bs::di vs gs::aA (cv c gs w.nodes)::cc gh c w.aO::bz d c w::ao m 23 (ab.cells c)::M):=
    ar rP (ar (u7 (bz d c w::ao m 23 (ab.cells c)::aK v 29 b::M)) rP)
   refine bF (L':=aK v 29 b::cY f c gh gl vs::gD gl v0::dH v0 fs::cE bs::di vs gs::aA (cv c gs w.nodes)::cc gh c w.aO::bz d c w::ao m 23 (ab.cells c)::M) ?_ rP;by_cases L:s.kind=7
   case neg=>
    rw[o]at L;refine Cg ?_;(repeat(first|intro(g:Nat)|intro(v:Value)|intro h));refine rn ?_;(repeat(first|intro(g:Nat)|intro(v:Value)|intro h));exact t _ _ ⟨_,ar u rP,false,(λh=>by cases h),rfl,rfl⟩
   by_cases S:0<=s.at_/\s.at_<w.fl.length
   case neg=>
    rw[o]at L S;by_cases ha:0<=(b[j]'n).at_
    ·have hb:¬(b[j]'n).at_<fs.length:=U;refine Cg ?_;(repeat(first|intro(g:Nat)|intro(v:Value)|intro h));refine rn ?_;(repeat(first|intro(g:Nat)|intro(v:Value)|intro h));exact t _ _ ⟨_,ar u rP,false,(λh=>by cases h),rfl,rfl⟩
    ·refine Cg ?_;(repeat(first|intro(g:Nat)|intro(v:Value)|intro h));refine rn ?_;(repeat(first|intro(g:Nat)|intro(v:Value)|intro h));exact t _ _ ⟨_,ar u rP,false,(λh=>by cases h),rfl,rfl⟩
   have D6:(b[j]'n).kind=7:=by rw[<-o];exact L
   have E8:0<=(b[j]'n).at_:=by rw[<-o];exact S.1
   have E9:(b[j]'n).at_<fs.length:=by rw[<-o];omega
   refine Cg ?_;(repeat(first|intro(g:Nat)|intro(v:Value)|intro h));refine rn ?_;(repeat(first|intro(g:Nat)|intro(v:Value)|intro h));have R:(b[j]'n).at_.toNat<fs.length:=U;have w7:fs[(b[j]'n).at_.toNat]'R∈fs:=bT R;obtain⟨y,hy⟩:∃y,y=fs[(b[j]'n).at_.toNat]'R:=⟨_,rfl⟩;have A9:y.key=((w.fl.getD s.at_.toNat (0,aF.zero)).1,(w.fl.getD s.at_.toNat (0,aF.zero)).2.bu):=by
    have p:(fs.map Fl.key)[(b[j]'n).at_.toNat]?=some y.key:=by rw[kz,gV R,<-hy];rfl
    have d8:s.at_.toNat<w.fl.length:=U;rw[ek,<-o]at p;unfold aD.keys at p;rw[kz,gV d8]at p;rw[show w.fl.getD s.at_.toNat (0,aF.zero)=w.fl[s.at_.toNat]'d8 by simp[cu,d8]];exact(Bx p).symm
   have p9:y.b∈bs:=by rw[hy];exact mb _ w7
   have E0:=qU _ (xT ok S);have j1:y.b.l=(w.fl.getD s.at_.toNat (0,aF.zero)).2.bu:=cn Prod.snd A9;have oy:=y.b.one;refine Uz ?_;(repeat(first|intro(g:Nat)|intro(v:Value)|intro h));rw[<-hy]
   (repeat' (first|(refine m1 ?_;(repeat(first|intro(g:Nat)|intro(v:Value)|intro h)))|(refine cG J J J (λh=>?_) (λh=>?_)<;>try(exfalso;omega))))
   refine rn ?_;(repeat(first|intro(g:Nat)|intro(v:Value)|intro h));have F9:=A.mask;obtain⟨mk,n8⟩:∃mk:Nat,s.mask=mk:=⟨s.mask.toNat,U⟩;have G7:0<y.b.l.length:=by rw[j1];unfold aF.bu;rw[nJ];omega
   have w5:(((s.bit%(8*y.b.l.length)).toNat:Nat):Int)=s.bit%(8*y.b.l.length):=by have p:=sY s.bit (show(8*(y.b.l.length:Int))≠0 by omega);omega
   refine Ex.Af 16 [12] _ rfl rQ (eb _) ?_;refine mn ?_;(repeat(first|intro(g:Nat)|intro(v:Value)|intro h));rw[<-o,n8];refine ma [] call14 (HD y.b.v y.b.l s.bit (s.bit%(8*y.b.l.length)).toNat mk _ (aI.AF 4 rfl p9) (by rw[j1];omega) U A.bit (λ_=>w5)) ?_;rintro vb _ ⟨ob,rfl⟩;obtain⟨bb,j9⟩:∃bb,bb=ib y.b.l (s.bit%(8*y.b.l.length)).toNat mk:=⟨_,rfl⟩;rw[<-j9];refine bn ?_;refine br rF ?_;refine mn ?_;(repeat(first|intro(g:Nat)|intro(v:Value)|intro h));refine bX J J J ?_;refine cH J J J rV ?_;refine bn ?_;refine br rF ?_;refine mn ?_;(repeat(first|intro(g:Nat)|intro(v:Value)|intro h));refine fZ J J J (LN (e:=5) J rQ rQ rQ (aI.AF 4 rfl p9)) ?_;by_cases w8:bb≠y.b.l
   ·have ht:IG w s:=⟨L,S,by rw[n8,dc,<-j1,<-j9];exact w8⟩;refine mn ?_;(repeat(first|intro(g:Nat)|intro(v:Value)|intro h));refine rn ?_;(repeat(first|intro(g:Nat)|intro(v:Value)|intro h));exact t _ _ ⟨_,ar u rP,true,(λ_=>ht),rfl,rfl⟩
   ·refine mn ?_;(repeat(first|intro(g:Nat)|intro(v:Value)|intro h));refine rn ?_;(repeat(first|intro(g:Nat)|intro(v:Value)|intro h));exact t _ _ ⟨_,ar u rP,false,(λh=>by cases h),rfl,rfl⟩
  rintro H9 C9 L' ⟨I,r,rfl,rfl⟩;have W:dE 198 c w:=(H.gd.mono U).ok U;have F:=H.step U s;have G0:=H.gd.n;have l8:=λh:I=true=>X5 (c:=c) (r h).1 (r h).2.1 (r h).2.2;clear r;refine rn ?_;(repeat(first|intro(g:Nat)|intro(v:Value)|intro h));refine ca [] call15 (xC (k:=198) d c w _ W (bj _)) ?_;rintro _ _ ⟨rfl,rfl⟩;generalize hH:w.aO.gg=p;refine rn ?_;(repeat(first|intro(g:Nat)|intro(v:Value)|intro h));revert g;intro j7;rw[d7];refine ca [1] call16 (xa (k:=198) d c w _ W (bj _) N U) ?_;rintro r9 _ ⟨ss,H0,V,rfl⟩;refine rn ?_;(repeat(first|intro(v:Value)|intro h));rw[<-o];refine ca [2] call17 (sI (k:=198) d c w s _ W (bj _) A) ?_;rintro _ _ ⟨rfl,rfl⟩;refine rn ?_;(repeat(first|intro(v:Value)|intro h));rw[<-o];refine ca [4] call18 (Ol (k:=j) f c w s _ H U A) ?_;rintro _ _ ⟨rfl,rfl⟩;have m8:=W.lens (bj _);rw[<-V]at m8;obtain⟨i,j0⟩:∃i,i=(w.step c s).1:=⟨_,rfl⟩;obtain⟨e2,m6⟩:∃e2,e2=(w.step c s).2:=⟨_,rfl⟩;rw[<-j0,<-m6]at l8;rw[<-j0]at F;rw[<-j0,<-m6];have j3:dE 198 c i:=(F.gd.mono U).ok U;have G6:=F.gd.n;cases r:I
  ·refine rn ?_;(repeat(first|intro(v:Value)|intro h));exact aS ⟨b.length-(j+1),bz d c i::dr f c i::ao m 23 (ab.cells c)::aK v 29 b::M,U,rP,j+1,i,U,rfl,F,av (aQ U) rfl,rfl⟩
  ·obtain⟨Q,u5,u6⟩:=l8 r;have u4:i.aO.gg=p:=by rw[u5,hH]
   have n9:i.sites=w.sites:=by unfold aD.sites;rw[u6]
   refine rn ?_;(repeat(first|intro(v:Value)|intro h));refine bF (L':=bz d c i::ao j7 53 (ab.cells p)::ao m 23 (ab.cells c)::cJ r9 ss::aA (ss.map aV.own)::dr f c i::aK v 29 b::M) ?_ rP;refine bU 21 [ao j7 53 (ab.cells p),ao m 23 (ab.cells c)] rfl rQ (gC (dt 1 rfl (dt 1 rfl (eI _)))) ?_;have y8:∀q:List aV,q.map aV.p=i.sites->q.length=ss.length/\q.length<=5:=λq C=>by have a1:=cn List.length V;have a2:=cn List.length C;rw[n9,<-V,bC,bC]at a2;refine⟨a2,?_⟩;unfold aD.sites at a1;rw[bC,bC]at a1;omega
   have m9:=j3.lens (bj _);rcases Q with Q|Q
   all_goals
    rw[Q]
    (repeat' (first|(refine m1 ?_;(repeat(first|intro(v:Value)|intro h)))|(refine cG J J J (λh=>?_) (λh=>?_)<;>try(exfalso;omega))))
    refine ma [] call15 (xC (k:=198) d c i _ j3 (bj _)) ?_;rintro _ _ ⟨rfl,rfl⟩;rw[u4];refine bn ?_;refine br (gC (dt 1 rfl (dt 1 rfl (eI _)))) ?_
    (repeat' (first|(refine m1 ?_;(repeat(first|intro(v:Value)|intro h)))|(refine cG J J J (λh=>?_) (λh=>?_)<;>try(exfalso;omega))))
    rw[d7];refine ma [] call16 (xa (k:=198) d c i _ j3 (bj _) N U) ?_;rintro B9 _ ⟨q,H4,C,rfl⟩;refine bn ?_;refine br (gC (dt 3 rfl (dt 3 rfl (eI _)))) ?_
    (repeat' (first|(refine m1 ?_;(repeat(first|intro(v:Value)|intro h)))|(refine cG J J J (λh=>?_) (λh=>?_)<;>try(exfalso;omega))))
    obtain⟨y9,z7⟩:=y8 q C;rw[<-C]at m9;refine ma [3,3,6,6] call19 (LL B9 r9 q ss _ y9 z7 m9 m8) ?_;rintro _ _ ⟨rfl,rfl⟩;rw[bf (show q.map aV.p=ss.map aV.p by rw[C,V,n9])];refine bn ?_;refine br (gC (dt 5 rfl (dt 5 rfl (eI _)))) ?_
    (repeat' (first|(refine m1 ?_;(repeat(first|intro(v:Value)|intro h)))|(refine cG J J J (λh=>?_) (λh=>?_)<;>try(exfalso;omega))))
    refine rn ?_;(repeat(first|intro(v:Value)|intro h));exact aS ⟨b.length-(j+1),bz d c i::dr f c i::ao m 23 (ab.cells c)::aK v 29 b::M,U,rP,j+1,i,U,rfl,F,av (aQ U) rfl,rfl⟩
 ·obtain rfl:j=b.length:=U;exact fX
theorem Tf(c0:aJ)(a:Value)(l:List cB)(x:cB)(W:World)(c:aI [ng W] a l)(e:O1 a)(b:l.length<=140737488351232)(d:∀s∈l,s.In)(hx:x.In):
  Fn prog 3 #[.agg (ab.cells c0).toArray,a,.agg (ab.cells x).toArray] [ng W] λv L'=>v=.bool true/\L'=[ng W]:=Uk c0 a l x [ng W] c e b d hx
end
end
end Go.Proofs.YtogcfijlhpaeeaaGreat
