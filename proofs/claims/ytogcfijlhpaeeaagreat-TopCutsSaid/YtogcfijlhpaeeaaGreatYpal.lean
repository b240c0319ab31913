/- Texts. No condition. -/
import Derived.Test.YtogcfijlhpaeeaaGreatYpak
open Go.RowKit Go.Proofs.Tryz
set_option linter.all false
set_option maxHeartbeats 32000000
namespace Go.Proofs.YtogcfijlhpaeeaaGreat
variable{k:Nat}{aq:List aF}
section
set_option maxRecDepth 20000 attribute [local irreducible] Ex aM Fn bI bJ bV fin meet ch aX bZ aP aN aI Rd aK Row ao Sub bk bP bS bN bg bR Hid bY
section
attribute [local irreducible] bG cC aA df
theorem Uu(gn:Nat)(c:aJ)(r:Int)(st:aG)(e:Ed)(dv:Value)(ds:DS)(x:NX)(M:List aa)(j:eO k c r st)(V:k<=200)(A9:e.key.length<=1000)(B7:e.value.length<=1000)(b:st.up=true)(A:jX st ds)(z:x.One):
  Fn prog 40 #[ay gn,.agg (ab.cells e).toArray] (nX gn c r st dv ds x M)
   λv L'=>∃y:Ev,v=.tuple #[.agg (ab.cells y).toArray,.int .i64 (st.edit c r e).2]/\L'=bD gn c r (st.edit c r e).1::M:=by
 obtain⟨B6,W⟩:=j.log b;obtain⟨b1,b2,b3⟩:=zt st.log;obtain⟨q1,q2⟩:=X0 (cf st.log);have r9:(iv (cf st.log)).length<=10000*10000:=za q1 (Nat.mul_le_mul U U);clear q1;have H:=j.r5;have y8:=j.aT b r.toNat U;obtain⟨u4,B8,B9⟩:=j.wait b;have y9:=j.cm.q;have n9:∀p∈cf st.log,p.1.length<=1000:=λp hp=>by obtain⟨y,hy,he⟩:=b3 p hp;have:=(W y hy).lens.1;rw[he]at this;omega
 have c9:=j.ia;rw[(j.up b).2]at c9;have c9:0<=st.sent/\st.sent<=1048576:=c9;obtain⟨z7,z8,n8⟩:=zn W st.aT;refine fo func40 ntmps40 ?_;refine rn ?_;(repeat(first|intro(g:Nat)|intro(v:Value)|intro(o:O1 _)|intro(cs:List Value)|intro(i:_=List.set _ _ _)|intro(zs:List _)|intro h));refine fh [9] rE ?_;refine sc ?_;(repeat(first|intro(g:Nat)|intro(v:Value)|intro(o:O1 _)|intro(cs:List Value)|intro(i:_=List.set _ _ _)|intro(zs:List _)|intro h));refine ma [] call98 (Kq x.gb (cf st.log) _ U U n9) ?_;rintro r1 _ ⟨cs,i,o1,rfl⟩;have m7:cs.length<=100000000:=by rw[<-bC (f:=Ct.gK),i];exact r9
 have j4:∀n∈cs,n.s0.length<=9000000000000000000/\n.s1.length<=9000000000000000000:=λn R=>by
  have hm:n.gK∈iv (cf st.log):=by rw[<-i];exact rj R
  have h:=q2 _ hm;have s:n.gK.s0.length=n.s0.length:=bC ..;have h1:n.gK.s1.length=n.s1.length:=bC ..;omega
 have d9:nj c.l c.p cs e=kb c.l c.p (iv (cf st.log)) e:=by rw[<-i,Mo]
 refine bn ?_;refine br rF ?_;refine mn ?_;(repeat(first|intro(g:Nat)|intro(v:Value)|intro(o:O1 _)|intro(cs:List Value)|intro(i:_=List.set _ _ _)|intro(zs:List _)|intro h))
 (repeat' (first|(refine m1 ?_;(repeat(first|intro(g:Nat)|intro(v:Value)|intro(o:O1 _)|intro(cs:List Value)|intro(i:_=List.set _ _ _)|intro(zs:List _)|intro h)))|(refine cG J J J (λh=>?_) (λh=>?_)<;>try(exfalso;omega))))
 refine bX J J J ?_;refine bc [] J call97 rE J (YH c r1 cs e _ rD (λn R=>(Ct.XF R _).sub (iC _ (bW _))) U U U j4) ?_;rintro _ _ ⟨rfl,rfl⟩;rw[d9];refine bn ?_;refine br rF ?_;refine mn ?_;(repeat(first|intro(g:Nat)|intro(v:Value)|intro(o:O1 _)|intro(cs:List Value)|intro(i:_=List.set _ _ _)|intro(zs:List _)|intro h))
 (repeat' (first|(refine m1 ?_;(repeat(first|intro(g:Nat)|intro(v:Value)|intro(o:O1 _)|intro(cs:List Value)|intro(i:_=List.set _ _ _)|intro(zs:List _)|intro h)))|(refine cG J J J (λh=>?_) (λh=>?_)<;>try(exfalso;omega))))
 obtain⟨q,w⟩:∃q,q=kb c.l c.p (iv (cf st.log)) e:=⟨_,rfl⟩;rw[<-w];by_cases c7:q=0
 case neg=>
  have m:st.edit c r e=(st,q):=by
   have:st.dg c r e=q:=by unfold aG.dg;rw[ai (by rw[b];simp),<-w,an c7]
   unfold aG.edit;rw[this,an c7]
  rw[m];refine rn ?_;(repeat(first|intro(g:Nat)|intro(v:Value)|intro(o:O1 _)|intro(cs:List Value)|intro(i:_=List.set _ _ _)|intro(zs:List _)|intro h));refine fr ?_;exact⟨_,ar (kn x b A z M) rP,Ev.zero,rfl,rfl⟩
 subst c7;rename_i d7;revert g;intro t;refine cb (L':=ao t 80 (ab.cells Ev.zero)::ao d7 26 (ab.cells e)::nX gn c r st dv ds x M) ?_ rP;clear i m7 j4 d9 o1;by_cases c8:c.q<=st.wait.length
 case pos=>
  have m:st.edit c r e=(st,17):=by
   have:st.dg c r e=17:=by unfold aG.dg;rw[ai (by rw[b];simp),<-w,ai (by simp),an c8]
   unfold aG.edit;rw[this,an (by simp)]
  rw[m];refine rn ?_;(repeat(first|intro(g:Nat)|intro h));refine ca [7,7] call99 (ud x.go c.q c.w st.sent x.vw st.wait _) ?_;rintro _ _ ⟨rfl,rfl⟩;refine rn ?_;(repeat(first|intro(g:Nat)|intro h));refine fr ?_;exact⟨_,ar (kn x b A z M) rP,Ev.zero,rfl,rfl⟩
 refine rn ?_;(repeat(first|intro(g:Nat)|intro h));refine ca [7,7] call99 (ud x.go c.q c.w st.sent x.vw st.wait _) ?_;rintro _ _ ⟨rfl,rfl⟩;refine rn ?_;(repeat(first|intro(g:Nat)|intro h));refine ca [5,5] call100 (wO x.gi c.h st.aT x.v0 st.held _) ?_;rintro _ _ ⟨rfl,rfl⟩;refine rn ?_;(repeat(first|intro(g:Nat)|intro h));revert g;intro g7;refine fh [7] rE ?_;refine sc ?_;(repeat(first|intro(g:Nat)|intro h));refine ma [] call101 (Ys st.aT r _ H U U) ?_;rintro _ _ ⟨rfl,rfl⟩;obtain⟨c2,d8⟩:∃c2,c2=st.aT.set r.toNat (st.aT.get r.toNat+1):=⟨_,rfl⟩;have j1:st.aT.next r=(c2,0):=by unfold aj.next;rw[ai U,ai U,d8]
 rw[j1];refine bn ?_;refine br rF ?_;refine mn ?_;(repeat(first|intro(g:Nat)|intro h));refine bX J J J ?_;(first|refine fO 0 J J rE rN J J rE rE ?_|refine fD 0 J J J rC J J J rE ?_|refine fQ 0 J J J rE J J rE ?_);refine bn ?_;refine br rF ?_;refine mn ?_;(repeat(first|intro(g:Nat)|intro h));refine rn ?_;(repeat(first|intro(g:Nat)|intro h));revert g;intro g8;refine bF (L':=cd gn c r true dv x.vl st.sent (ay x.gb) (ay x.gi) (ay x.go)::ao g8 50 (ab.cells c2)::ao g7 50 (ab.cells st.aT)::ao d7 26 (ab.cells e)::aL x.vl st.log::cC dv ds::df x.gb (cf st.log)::ao t 80 (ab.cells Ev.zero)::dU x.gi c.h st.aT x.v0::aL x.v0 st.held::ec x.go c.q c.w st.sent x.vw::aL x.vw st.wait::M) ?_ rP;refine wk ?_;(repeat(first|intro(g:Nat)|intro h));refine bX J J J ?_;refine bc [] J call102 rE J (WG x.vl st.log st.aT _ rD U (λy hy=>(W y hy).I.2)) ?_;rintro _ _ ⟨rfl,rfl⟩;rw[n8];refine bn ?_;refine br rF ?_;refine mn ?_;(repeat(first|intro(g:Nat)|intro h));by_cases hh:16777216<lq st.log st.aT
 ·have m:st.edit c r e=(st,25):=by
   have:st.dg c r e=25:=by unfold aG.dg;rw[ai (by rw[b];simp),<-w,ai (by simp),ai c8,an (.inr hh)]
   unfold aG.edit;rw[this,an (by simp)]
  rw[m];refine rn ?_;(repeat(first|intro(g:Nat)|intro h));refine fr ?_;exact⟨_,ar (kn x b A z M) rP,Ev.zero,rfl,rfl⟩
 refine rn ?_;(repeat(first|intro(g:Nat)|intro h));refine RK ?_;(repeat(first|intro(g:Nat)|intro h));refine rn ?_;(repeat(first|intro(g:Nat)|intro h));revert g;intro C;obtain⟨a,u⟩:∃a,a=st.dm r e:=⟨_,rfl⟩;have j0:[c2.a,c2.b,c2.c,c2.d,c2.e].getD r.toNat 0=st.aT.get r.toNat+1:=by rw[c2.getD_eq,d8,aj.El _ _ _ _ U,an rfl]
 have e9:ab.cells a=[.int .i64 r,.int .i64 ([c2.a,c2.b,c2.c,c2.d,c2.e].getD r.toNat 0),.int .i64 st.aT.a,.int .i64 st.aT.b,.int .i64 st.aT.c,.int .i64 st.aT.d,.int .i64 st.aT.e,.int .i64 (lq st.log st.aT),.int .i64 e.kind,.string (S e.key),.int .i64 e.label,.string (S e.value)]:=by rw[j0,u];rfl
 refine bF (L':=cd gn c r true dv x.vl st.sent (ay x.gb) (ay x.gi) (ay x.go)::ao C 80 (ab.cells a)::cC dv ds::aL x.vl st.log::df x.gb (cf st.log)::dU x.gi c.h st.aT x.v0::aL x.v0 st.held::ec x.go c.q c.w st.sent x.vw::aL x.vw st.wait::ao t 80 (ab.cells Ev.zero)::M) ?_ (by rw[e9];exact rP);clear e9 j0 j1;have F:a.aW:=by rw[u];exact aG.Aj j V b (by have h:=Ce w.symm;exact h) U U
 have j3:=pb (k:=1) (r:=r) (l:=[a]) (.inl ⟨rfl,rfl⟩) H (by simp) (λy hy=>by rw[mJ.1 hy];exact F);have hb:=wz _ j3;have hd:=j.pw V A;have B0:(bw 1 r [a]).l.length=1:=rfl;obtain⟨P,d2⟩:=A.write b (j.up b).1 (bw 1 r [a]);obtain⟨L,w2⟩:=st.mq (bw 1 r [a]);refine bU 9 [my gn c r x.vl st.sent (ay x.gb) (ay x.gi) (ay x.go),ao C 80 (ab.cells a)] rfl rQ (my.pa (bl _ (eI _))) ?_;refine mn ?_;(repeat(first|intro(g:Nat)|intro h));refine fZ J J J (my.val λup d=>rV) ?_;refine mn ?_;(repeat(first|intro(g:Nat)|intro h));refine bX J J J ?_;refine bc [2,3] J call103 rE J (xP gn c r true dv x.vl st.sent (ay x.gb) (ay x.gi) (ay x.go) ds (bw 1 r [a]) _ _ rD rfl U (λy hy=>by rw[mJ.1 hy];have:=F.lens;omega) j3 U) ?_;rintro _ _ ⟨gd,rfl,rfl⟩;rw[d2];refine bn ?_;refine br (my.pa (dt 2 rfl (eI _))) ?_;have e8:st.dg c r e=0:=by unfold aG.dg;rw[ai (by rw[b];simp),<-w,ai (by simp),ai c8,ai U]
 rcases st.tq (bw 1 r [a])with s|s
 case inr=>
  have m:st.edit c r e=((st.write (bw 1 r [a])).1,18):=by unfold aG.edit;rw[ai (by rw[e8];simp),<-u,an (by rw[s];simp)]
  rw[m,s];have Q:(true&&decide ((18:Int)=0))=false:=rfl;rw[Q];refine mn ?_;(repeat(first|intro(g:Nat)|intro h));refine cb (L':=ao t 80 (ab.cells Ev.zero)::cd gn c r false (ay gd) x.vl st.sent (ay x.gb) (ay x.gi) (ay x.go)::bG gd (ds.write (bw 1 r [a]).bytes).1::M) ?_ rP;refine rn ?_;(repeat(first|intro(g:Nat)|intro h));refine fr ?_;exact⟨_,ar (sT (w2 (by rw[s];simp)) P M) rP,Ev.zero,rfl,rfl⟩
 have L:=L s;have m:st.edit c r e=({st with aE:=st.aE++[bw 1 r [a]],log:=st.log++[a],aT:=st.aT.set r.toNat (st.aT.get r.toNat+1),wait:=(gP c.q st.sent st.wait a).2},0):=by unfold aG.edit;rw[ai (by rw[e8];simp),<-u,ai (by rw[s];simp),L]
 rw[m,s];rw[L]at P;clear m;have Q:(true&&decide ((0:Int)=0))=true:=rfl;rw[Q];refine mn ?_;(repeat(first|intro(g:Nat)|intro h));refine rn ?_;(repeat(first|intro(g:Nat)|intro h));refine bF (L':=dU x.gi c.h st.aT x.v0::aL x.v0 st.held::cd gn c r true (ay gd) x.vl st.sent (ay x.gb) (ay x.gi) (ay x.go)::ao C 80 (ab.cells a)::ec x.go c.q c.w st.sent x.vw::aL x.vw st.wait::aL x.vl st.log::df x.gb (cf st.log)::bG gd (ds.write (bw 1 r [a]).bytes).1::ao t 80 (ab.cells Ev.zero)::M) ?_ rP;refine bU 6 (_::_::_::_::_::_::_::_::M) rfl rQ rF ?_;refine mn ?_;(repeat(first|intro(g:Nat)|intro h));refine ma [] call104 (Rj x.gi c.h st.aT x.v0 st.held a _ F.I.1 (j.cI V b)) ?_;have s9:a.dY st.aT:=by rw[u];exact⟨H.1,H.2,by show 1<=st.aT.get r.toNat+1;omega,by show st.aT.get r.toNat+1-1=st.aT.get r.toNat;omega,Kw _⟩
 rintro _ _ (⟨q9,_,_⟩|⟨_,rfl,rfl⟩)
 ·exact absurd s9 q9
 refine bn ?_;refine br rF ?_;refine mn ?_;(repeat(first|intro(g:Nat)|intro h));refine rn ?_;(repeat(first|intro(g:Nat)|intro h));refine bF (L':=ec x.go c.q c.w st.sent x.vw::aL x.vw st.wait::cd gn c r true (ay gd) x.vl st.sent (ay x.gb) (ay x.gi) (ay x.go)::ao C 80 (ab.cells a)::dU x.gi c.h (st.aT.set a.r.toNat a.n) x.v0::aL x.v0 st.held::aL x.vl st.log::df x.gb (cf st.log)::bG gd (ds.write (bw 1 r [a]).bytes).1::ao t 80 (ab.cells Ev.zero)::M) ?_ rP;refine bU 6 (_::_::_::_::_::_::_::_::M) rfl rQ rF ?_;refine mn ?_;(repeat(first|intro(g:Nat)|intro h));refine ma [] call105 (Lx x.go c.q c.w st.sent x.vw st.wait a _ u4 U U z.w) ?_;rintro _ _ ⟨rfl,d6,u7,rfl⟩;refine bn ?_;refine br rF ?_;refine mn ?_;(repeat(first|intro(g:Nat)|intro h));refine rn ?_;(repeat(first|intro(g:Nat)|intro h));revert g;intro l8;refine cb (L':=cd gn c r true (ay gd) x.vl st.sent (ay x.gb) (ay x.gi) (ay x.go)::aL x.vl st.log::df x.gb (cf st.log)::aK (.slice (some ⟨l8,0,none⟩) 1 1) 80 [a]::ao C 80 (ab.cells a)::ao t 80 (ab.cells Ev.zero)::ec x.go c.q c.w st.sent d6::aL d6 (gP c.q st.sent st.wait a).2::dU x.gi c.h (st.aT.set a.r.toNat a.n) x.v0::aL x.v0 st.held::bG gd (ds.write (bw 1 r [a]).bytes).1::M) ?_ rP;refine bc [] J call106 rE J (HL gn c r true (ay gd) x.vl st.sent x.gb (ay x.gi) (ay x.go) _ st.log [a] (cf st.log) _ rD rfl z.l (by simp;omega) (λy hy=>by rw[mJ.1 hy];have:=F.lens;exact⟨F,U,U⟩) (by simp;omega)) ?_;rintro _ _ ⟨w5,u6,rfl⟩;refine rn ?_;intros;refine fr ?_;refine⟨_,ar (uW (st:={st with aE:=st.aE++[bw 1 r [a]],log:=st.log++[a],aT:=st.aT.set r.toNat (st.aT.get r.toNat+1),wait:=(gP c.q st.sent st.wait a).2}) (gd:=gd) (ds:=(ds.write (bw 1 r [a]).bytes).1) ⟨x.gb,x.gi,x.go,w5,x.v0,d6⟩ b (P.mem rfl rfl rfl rfl rfl) ⟨u6,z.h,u7⟩ M) ?_,a,rfl,rfl⟩;have e3:st.aT.set a.r.toNat a.n=st.aT.set r.toNat (st.aT.get r.toNat+1):=by rw[u];rfl
 have e4:cf (st.log++[a])=[a].foldl ik (cf st.log):=by unfold cf;rw[js]
 rw[e3];show Sub (_::_::_::_::_::_::_::df x.gb (cf (st.log++[a]))::M) _;rw[e4];exact rP
end
section
theorem DX(q r sent:Int)(a:List Ev)(e:Ev):ie q r sent (a++[e])=mK q r sent (ie q r sent a) e:=by unfold ie;rw[js];rfl
theorem qv(a:List Ev)(e:Ev):cr (a++[e])=gM (cr a) e:=by unfold cr;rw[js];rfl
theorem HN(q r sent:Int)(a:List Ev):iV sent (ie q r sent a)/\(ie q r sent a).length<=a.length:=by
 have d:∀(l w:List Ev),iV sent w->iV sent (l.foldl (mK q r sent) w)/\(l.foldl (mK q r sent) w).length<=w.length+l.length:=by
  intro l
  induction l with
  |nil=>exactλw h=>⟨h,bj _⟩
  |cons e l ih=>
   intro w h;have b:iV sent (mK q r sent w e)/\(mK q r sent w e).length<=w.length+1:=by
    unfold mK;split
    ·exact⟨Zq h,Qt⟩
    ·exact⟨h,U⟩
   obtain⟨c,f⟩:=ih _ b.1;exact⟨c,by rw[qa,dL];omega⟩
 have:=d a [] (iV.nil sent);exact⟨this.1,by have:=this.2;simpa[ie]using this⟩
theorem Bg(a:List Ev)(h:∀e∈a,0<=e.r/\e.r<5):∀i,i<5->0<=(cr a).get i/\(cr a).get i<=a.length:=by
 have f:∀(l:List Ev) (c:aj) (m:Int),(∀e∈l,0<=e.r/\e.r<5)->(∀i,i<5->0<=c.get i/\c.get i<=m)->∀i,i<5->0<=(l.foldl gM c).get i/\(l.foldl gM c).get i<=m+l.length:=by
  intro l
  induction l with
  |nil=>intro c m _ h i hi;simpa using h i hi
  |cons e l ih=>intro c m d h i hi;have n:=d e (fP ..);have:=ih (gM c e) (m+1) (λx hx=>d x (eu _ hx)) (λj b=>by have g:=h j b;have k:=h e.r.toNat U;unfold gM;rw[aj.El _ _ _ _ U];split<;>omega) i hi;rw[qa,dL];omega
 intro i hi;have:=f a aj.zero 0 h (λj b=>by
  match j,b with
  |0,_=>exact⟨eH _,eH _⟩
  |1,_=>exact⟨eH _,eH _⟩
  |2,_=>exact⟨eH _,eH _⟩
  |3,_=>exact⟨eH _,eH _⟩
  |4,_=>exact⟨eH _,eH _⟩) i hi
 unfold cr;omega
theorem Hq(c:aj)(i:Nat)(v:Int)(h:i<5):(ab.cells c).set i (.int .i64 v)=ab.cells (c.set i v):=by
 match i,h with
 |0,_=>rfl
 |1,_=>rfl
 |2,_=>rfl
 |3,_=>rfl
 |4,_=>rfl
attribute [local irreducible] bG cC aA df
theorem RG(gn:Nat)(c:aJ)(r:Int)(l:Bool)(dv vl:Value)(sent:Int)(b m o:Value)(a:List Ev)(M:List aa)(ol:O1 vl)(j9:a.length<=10000)(L:∀e∈a,e.aW)(hs:0<=sent/\sent<=1048576):
  Fn prog 128 #[ay gn] (cd gn c r l dv vl sent b m o::aL vl a::M)
   λv L'=>∃i gi k f,O1 f/\L'=cd gn c r l dv vl sent (ay i) (ay gi) (ay k)::dU gi c.h (cr a) (.slice none 0 0)::aL (.slice none 0 0) []::ec k c.q c.w sent f::aL f (ie c.q r sent a)::aL vl a::df i (cf a)::M:=by
 refine fo func128 ntmps128 ?_;refine rn ?_;(repeat(first|intro(g:Nat)|intro(cs:List Value)|intro(q:_=List.set _ _ _)|intro h));refine ca [] call186 (ZA _) ?_;rintro _ _ ⟨i,rfl,rfl⟩;refine rn ?_;(repeat(first|intro(g:Nat)|intro(cs:List Value)|intro(q:_=List.set _ _ _)|intro h));refine tx ?_;(repeat(first|intro(g:Nat)|intro(cs:List Value)|intro(q:_=List.set _ _ _)|intro h));refine ma [] call187 (Rn c.q c.w sent _) ?_;rintro _ _ ⟨k,rfl,rfl⟩;refine bn ?_;refine br rF ?_;refine mn ?_;(repeat(first|intro(g:Nat)|intro(cs:List Value)|intro(q:_=List.set _ _ _)|intro h));refine rn ?_;(repeat(first|intro(g:Nat)|intro(cs:List Value)|intro(q:_=List.set _ _ _)|intro h));revert g;intro p;refine bF (L':=cd gn c r l dv vl sent (ay i) m (ay k)::ao p 50 (ab.cells aj.zero)::df i []::ec k c.q c.w sent (.slice none 0 0)::aL (.slice none 0 0) []::aL vl a::M) ?_ rP;refine bm [32] (λz vs L'=>∃(j:Nat) (f:Value),j<=a.length/\f.oneCell'=true/\z=a.length-j/\vs=[.int .i64 j]/\L'=cd gn c r l dv vl sent (ay i) m (ay k)::ao p 50 (ab.cells (cr (a.take j)))::df i (cf (a.take j))::ec k c.q c.w sent f::aL f (ie c.q r sent (a.take j))::aL vl a::M) a.length ⟨0,.slice none 0 0,U,rfl,rfl,rfl,rfl⟩ ?_;rintro z vs g1 L1 ⟨j,f,hj,w,rfl,rfl,rfl⟩;refine bp [0,2,30,31,32] rG (λgk=>?_);by_cases d:j<a.length
 ·have F:=L (a[j]'d) (bT d);have j5:=F.r;have C:a.take (j+1)=a.take j++[a[j]'d]:=da d;obtain⟨d7,d8⟩:=HN c.q r sent (a.take j);obtain⟨P,Q,b3⟩:=zt (a.take j);rw[dy]at d8 P Q;have A:cf (a.take (j+1))=ik (cf (a.take j)) (a[j]'d):=by rw[C,xZ]
  have H:ie c.q r sent (a.take (j+1))=mK c.q r sent (ie c.q r sent (a.take j)) (a[j]'d):=by rw[C,DX]
  have y:cr (a.take (j+1))=gM (cr (a.take j)) (a[j]'d):=by rw[C,qv]
  have c8:=Bg (a.take j) (λe he=>(L e (mM he)).r) (a[j]'d).r.toNat U;rw[dy]at c8;have j7:=F.lens;generalize cf (a.take j)=lj at*
  generalize cr (a.take j)=t at*
  generalize ie c.q r sent (a.take j)=s at*
  have j8:(ab.cells t).length=5:=rfl;refine rn ?_;(repeat(first|intro(g:Nat)|intro(cs:List Value)|intro(q:_=List.set _ _ _)|intro h));have c9:cs=ab.cells (gM t (a[j]'d)):=by rw[q,t.getD_eq,show 0+(a[j]'d).r.toNat*1=(a[j]'d).r.toNat by omega,xG (by unfold cD;omega),Hq _ _ _ U];rfl
  subst c9;revert g;intro R;refine bF (L':=df i lj::ao R 80 (ab.cells (a[j]'d))::cd gn c r l dv vl sent (ay i) m (ay k)::ao p 50 (ab.cells (gM t (a[j]'d)))::ec k c.q c.w sent f::aL f s::aL vl a::M) ?_ rP;refine bU 6 (_::_::_::_::_::_::M) rfl rQ rF ?_;refine mn ?_;intros;refine ma [] call175 (JI i _ (a[j]'d) _ F U U U) ?_;rintro _ _ ⟨rfl,rfl⟩;refine mw ?_;intros;refine rn ?_;intros;by_cases x:(a[j]'d).r=r/\sent<(a[j]'d).n
  ·obtain⟨V,W⟩:=x;have u:mK c.q r sent s (a[j]'d)=(gP c.q sent s (a[j]'d)).2:=by unfold mK;rw[an ⟨V,W⟩]
   refine tx ?_;intros;refine rn ?_;intros;refine fh [5,5] rE ?_;refine bU 6 (_::_::_::_::_::M) rfl rQ rF ?_;refine mn ?_;intros;refine ma [] call105 (Lx k c.q c.w sent f s (a[j]'d) _ d7 U U w) ?_;rintro _ _ ⟨rfl,I,e8,rfl⟩;refine mw ?_;intros;refine rn ?_;intros;refine aS ⟨a.length-(j+1),cd gn c r l dv vl sent (ay i) m (ay k)::ao p 50 (ab.cells (cr (a.take (j+1))))::df i (cf (a.take (j+1)))::ec k c.q c.w sent I::aL I (ie c.q r sent (a.take (j+1)))::aL vl a::M,U,?_,j+1,I,U,e8,rfl,av (aQ U) rfl,rfl⟩;rw[y,A,H,u];exact rP
  ·have u:mK c.q r sent s (a[j]'d)=s:=by unfold mK;rw[ai x]
   have c7:¬(a[j]'d).r=r\/((a[j]'d).r=r/\¬sent<(a[j]'d).n):=U;clear x;rcases c7 with S|⟨S,h2⟩
   ·refine tx ?_;intros;refine rn ?_;intros;refine aS ⟨a.length-(j+1),cd gn c r l dv vl sent (ay i) m (ay k)::ao p 50 (ab.cells (cr (a.take (j+1))))::df i (cf (a.take (j+1)))::ec k c.q c.w sent f::aL f (ie c.q r sent (a.take (j+1)))::aL vl a::M,U,?_,j+1,f,U,w,rfl,av (aQ U) rfl,rfl⟩;rw[y,A,H,u];exact rP
   ·refine tx ?_;intros;refine rn ?_;intros;refine aS ⟨a.length-(j+1),cd gn c r l dv vl sent (ay i) m (ay k)::ao p 50 (ab.cells (cr (a.take (j+1))))::df i (cf (a.take (j+1)))::ec k c.q c.w sent f::aL f (ie c.q r sent (a.take (j+1)))::aL vl a::M,U,?_,j+1,f,U,w,rfl,av (aQ U) rfl,rfl⟩;rw[y,A,H,u];exact rP
 ·obtain rfl:j=a.length:=U;rw[dI];refine rn ?_;intros;refine ln ?_;intros;refine ma [] call188 (TU c.h (cr a) _) ?_;rintro _ _ ⟨gi,rfl,rfl⟩;refine mw ?_;intros;refine rn ?_;intros;refine fr ?_;exact⟨_,rP,i,gi,k,f,w,rfl⟩
end
end
section
def MR(Q:bx):bx
 | .goto _,_,_=>False
 |e,f,L=>Q e f L
theorem MN{Q:bx}{f:Nat->Value}{L:List aa}(h:Q .ret f L):MR Q .ret f L:=h
section
variable{P:Program}{n:Nat}{Q:bx}{f:Nat->Value}{L:List aa}
theorem Ex.Lp{c:Code}(h:Ex P n c (MR Q) f L):Ex P n (.scope c) Q f L:=λD F w0 f0 ws a w H i=>by
 refine wp_scope_straight (jo (h D F w0 f0 ws a w H i) ?_);rintro e a w ⟨g,d,b,q⟩;cases e with
 |goto l=>exact q.elim
 |_=>exact⟨g,d,b,q⟩
end
end
section
theorem Yx{j:Nat}(c:∀x∈aq,x.aW):(replay (aq.take j)).1.length<=4096*j/\0<=(replay (aq.take j)).2/\(replay (aq.take j)).2<=1048576:=by
 induction j with
 |zero=>exact⟨bj _,eH _,(by show(0:Int)<=1048576;omega)⟩
 |succ j ih=>
  by_cases a:j<aq.length
  ·rw[da a,iR];have d:=(c _ (bT a)).m;have b:=(c _ (bT a)).u;unfold iM;split
   ·exact⟨by simp only;omega,b⟩
   ·split
    ·exact⟨by simp only;omega,b⟩
    ·refine⟨by simp only[bo];omega,ih.2⟩
  ·rw[ic U]at ih⊢
   exact⟨U,ih.2⟩
theorem Gp:∀{a:List aF},(∀x∈a,x.aW)->a.length<=(cO a).length
 |[],_=>bj _
 |x::l,h=>by have b:=Gp (λy hy=>h y (eu _ hy));have c:=(x.lR (h x (fP ..))).1;rw[DU,bo,dL];omega
set_option maxRecDepth 20000 attribute [local irreducible] Ex aM Fn bI bJ bV fin meet ch aX bZ aP aN aI Rd aK Row ao Sub bk bP bS bN bg bR Hid bY
section
attribute [local irreducible] bG cC aA df
theorem Vx(gn:Nat)(c:aJ)(r:Int)(st:aG)(dv:Value)(ds:DS)(vl:Value)(sent:Int)(b d f:Value)(M:List aa)(q:eO k c r st)(hk:k<=200)(hu:st.up=false)(t:jX st ds):
  Fn prog 61 #[ay gn] (cd gn c r false dv vl sent b d f::cC dv ds::M) λv L'=>v=.int .i64 (st.start c r).2/\L'=bD gn c r (st.start c r).1::M:=by
 have hd:=q.pw hk t;refine fo func61 ntmps61 ?_;refine rn ?_;(repeat(first|intro(g:Nat)|intro(v:Value)|intro(o:O1 _)|intro h));refine Ex.Lp ?_;refine rn ?_;(repeat(first|intro(g:Nat)|intro(v:Value)|intro(o:O1 _)|intro h));refine ca [] call122 (Ao gn c r false dv vl sent b d f ds _) ?_;rintro _ _ ⟨gd,rfl,rfl⟩;refine rn ?_;(repeat(first|intro(g:Nat)|intro(v:Value)|intro(o:O1 _)|intro h));refine ca [1] call124 (LD gd ds _) ?_;rintro _ _ rfl;refine rn ?_;(repeat(first|intro(g:Nat)|intro(v:Value)|intro(o:O1 _)|intro h));refine ca [] call126 (Ix gd ⟨ds.b,false,false,ds.keep⟩ _ (by show ds.b.length<=_;omega)) ?_;rintro rb _ ⟨e8,rfl⟩;refine rn ?_;(repeat(first|intro(g:Nat)|intro(v:Value)|intro(o:O1 _)|intro h));refine bc [] J call125 J J (Ic rb ds.b _ rD e8 U) ?_;rintro _ _ ⟨l,n,u,H,hn,ou,rfl,rfl⟩;rw[t.b]at H;obtain⟨P,d7⟩:=oR.of q.tail q.aE H;have m9:=q.size;have m8:=Gp q.aE;have c9:l.length=st.aE.length:=by rw[<-P,bC]
 refine rn ?_;(repeat(first|intro(g:Nat)|intro(v:Value)|intro(o:O1 _)|intro h));refine ca [3] call127 (Kx gd ⟨ds.b,false,false,ds.keep⟩ n _ (by show ds.b.length<=_;omega)) ?_;rintro _ _ rfl;have d8:(⟨ds.b,false,false,ds.keep⟩:DS).trim n=⟨cO st.aE,false,false,ds.keep⟩:=by unfold DS.trim;rw[an ⟨U,by show(n:Int)<=(ds.b.length:Int);omega⟩];show(⟨ds.b.take (n:Int).toNat,_,_,_⟩:DS)=_;rw[dc,t.b,d7,jL]
 rw[d8];refine cb (L':=cd gn c r false (ay gd) vl sent b d f::jI u l::aA (l.map ej.ev)::bG gd ⟨cO st.aE,false,false,ds.keep⟩::M) ?_ rP;refine rn ?_;(repeat(first|intro(g:Nat)|intro(v:Value)|intro(o:O1 _)|intro h));refine Ex.label ?_;refine rn ?_;(repeat(first|intro(g:Nat)|intro(v:Value)|intro(o:O1 _)|intro h));refine bF (L':=cd gn c r false (ay gd) (.slice none 0 0) 0 b d f::aL (.slice none 0 0) []::jI u l::aA (l.map ej.ev)::bG gd ⟨cO st.aE,false,false,ds.keep⟩::M) ?_ (bl _ (cA (α:=Ev) none 80 _));refine bm [33] (λz vs L'=>∃(j:Nat) (m:Value),j<=l.length/\m.oneCell'=true/\z=l.length-j/\vs=[.int .i64 j]/\L'=cd gn c r false (ay gd) m (replay (st.aE.take j)).2 b d f::aL m (replay (st.aE.take j)).1::jI u l::aA (l.map ej.ev)::bG gd ⟨cO st.aE,false,false,ds.keep⟩::M) l.length ⟨0,.slice none 0 0,U,rfl,rfl,rfl,rfl⟩ ?_;rintro z vs g1 L1 ⟨j,m,hj,F,rfl,rfl,rfl⟩;refine bp [0,31,32,33] rG (λgk=>?_);by_cases a:j<l.length
 ·have w:j<st.aE.length:=U;have R:st.aE[j]'w=(l[j]'a).x:=by simp[<-P]
  have A:replay (st.aE.take (j+1))=iM (replay (st.aE.take j)) (l[j]'a).x:=by rw[da w,iR,R]
  obtain⟨j6,j7,j8⟩:=Yx (j:=j) q.aE;have d6:(l[j]'a).x.aW:=by rw[<-R];exact q.aE _ (bT w)
  have l9:=d6.m;have m7:(l[j]'a).v.oneCell'=true:=(l[j]'a).o;have I:∀L,Sub (aL (l[j]'a).v (l[j]'a).x.l::aA ((l.map ej.ev).eraseIdx j)::L) (aA (l.map ej.ev)::L):=λL=>qA (As:=l.map ej.ev) (i:=j) L (by simp[a];rfl);have Q:∀L,Sub (aA (l.map ej.ev)::L) (aL (l[j]'a).v (l[j]'a).x.l::aA ((l.map ej.ev).eraseIdx j)::L):=λL=>by
   have h:=aA.qt (As:=l.map ej.ev) (i:=j) (l[j]'a).ev L (by simpa using a);have e:(l.map ej.ev).set j (l[j]'a).ev=l.map ej.ev:=by
    have V:(l[j]'a).ev=(l.map ej.ev)[j]'(by simpa using a):=by simp
    rw[V,qB]
   rw[e]at h;exact h
  generalize replay (st.aE.take j)=p at*
  by_cases C:(l[j]'a).x.kind=3
  ·refine rn ?_;(repeat(first|intro(g:Nat)|intro(v:Value)|intro(o:O1 _)|intro h));refine aS ⟨l.length-(j+1),cd gn c r false (ay gd) m (replay (st.aE.take (j+1))).2 b d f::aL m (replay (st.aE.take (j+1))).1::jI u l::aA (l.map ej.ev)::bG gd ⟨cO st.aE,false,false,ds.keep⟩::M,U,?_,j+1,m,U,F,rfl,av (aQ U) rfl,rfl⟩;rw[A];unfold iM;rw[an C];exact rP
  ·by_cases S:(l[j]'a).x.kind=4
   ·refine rn ?_;(repeat(first|intro(g:Nat)|intro(v:Value)|intro(o:O1 _)|intro h));revert g;intro s;refine fh [1] rE ?_;refine bU 7 (_::_::_::_::_::M) rfl rQ rF ?_;refine mn ?_;(repeat(first|intro(g:Nat)|intro(v:Value)|intro(o:O1 _)|intro h));refine bX J J J ?_;(first|refine fO 0 J J rE rN J J rE rE ?_|refine fD 0 J J J rC J J J rE ?_|refine fQ 0 J J J rE J J rE ?_);refine bn ?_;refine br rF ?_;refine mn ?_;(repeat(first|intro(g:Nat)|intro(v:Value)|intro(o:O1 _)|intro h));refine rn ?_;(repeat(first|intro(g:Nat)|intro(v:Value)|intro(o:O1 _)|intro h));refine bF (L':=aL (.slice none 0 0) []::cd gn c r false (ay gd) (.slice none 0 0) (l[j]'a).x.upto b d f::ao s 88 (ab.cells (l[j]'a))::aL (l[j]'a).v (l[j]'a).x.l::aA ((l.map ej.ev).eraseIdx j)::jI u l::bG gd ⟨cO st.aE,false,false,ds.keep⟩::M) ?_ (ar (cA (α:=Ev) none 80 _) (ar rP (ar (I (cd gn c r false (ay gd) (.slice none 0 0) (l[j]'a).x.upto b d f::ao s 88 (ab.cells (l[j]'a))::jI u l::bG gd ⟨cO st.aE,false,false,ds.keep⟩::M)) rP)));refine bU 8 (_::_::_::_::_::_::M) rfl rQ rF ?_;refine mn ?_;(repeat(first|intro(g:Nat)|intro(v:Value)|intro(o:O1 _)|intro h));refine rn ?_;(repeat(first|intro(g:Nat)|intro(v:Value)|intro(o:O1 _)|intro h));have y:replay (st.aE.take (j+1))=((l[j]'a).x.l,(l[j]'a).x.upto):=by rw[A];unfold iM;rw[ai C,an S]
    refine aS ⟨l.length-(j+1),cd gn c r false (ay gd) v (replay (st.aE.take (j+1))).2 b d f::aL v (replay (st.aE.take (j+1))).1::jI u l::aA (l.map ej.ev)::bG gd ⟨cO st.aE,false,false,ds.keep⟩::M,U,?_,j+1,v,U,o,rfl,av (aQ U) rfl,rfl⟩;rw[y];exact ar rP (ar (Q (cd gn c r false (ay gd) v (l[j]'a).x.upto b d f::aL v (l[j]'a).x.l::jI u l::bG gd ⟨cO st.aE,false,false,ds.keep⟩::M)) rP)
   ·refine rn ?_;(repeat(first|intro(g:Nat)|intro(v:Value)|intro(o:O1 _)|intro h));revert g;intro s;refine bF (L':=aL m p.1::cd gn c r false (ay gd) m p.2 b d f::ao s 88 (ab.cells (l[j]'a))::aL (l[j]'a).v (l[j]'a).x.l::aA ((l.map ej.ev).eraseIdx j)::jI u l::bG gd ⟨cO st.aE,false,false,ds.keep⟩::M) ?_ (ar rP (ar (I (aL m p.1::cd gn c r false (ay gd) m p.2 b d f::ao s 88 (ab.cells (l[j]'a))::jI u l::bG gd ⟨cO st.aE,false,false,ds.keep⟩::M)) rP));refine bU 8 (_::_::_::_::_::_::M) rfl rQ rF ?_;refine mn ?_;(repeat(first|intro(v:Value)|intro(o:O1 _)|intro h));refine rn ?_;(repeat(first|intro(v:Value)|intro(o:O1 _)|intro h));have y:replay (st.aE.take (j+1))=(p.1++(l[j]'a).x.l,p.2):=by rw[A];unfold iM;rw[ai C,ai S]
    refine aS ⟨l.length-(j+1),cd gn c r false (ay gd) v (replay (st.aE.take (j+1))).2 b d f::aL v (replay (st.aE.take (j+1))).1::jI u l::aA (l.map ej.ev)::bG gd ⟨cO st.aE,false,false,ds.keep⟩::M,U,?_,j+1,v,U,o,rfl,av (aQ U) rfl,rfl⟩;rw[y];exact ar rP (ar (Q (cd gn c r false (ay gd) v p.2 b d f::aL v (p.1++(l[j]'a).x.l)::jI u l::bG gd ⟨cO st.aE,false,false,ds.keep⟩::M)) rP)
 ·obtain rfl:j=l.length:=U;rw[c9,dI];refine rn ?_;intros;have l8:=q.lN;refine ca [] call128 (RG gn c r false (ay gd) m (replay st.aE).2 b d f (replay st.aE).1 _ F U q.iZ q.ia) ?_;rintro _ _ ⟨W,gi,go,vw,ow,rfl⟩;refine rn ?_;intros;refine MN ?_;refine fr ?_;have e:st.start c r=({st with up:=true,tail:=[],bE:=false,log:=(replay st.aE).1,sent:=(replay st.aE).2,aT:=cr (replay st.aE).1,held:=[],wait:=ie c.q r (replay st.aE).2 (replay st.aE).1},0):=by unfold aG.start;rw[ai (by rw[hu];simp)]
  rw[e];exact⟨_,ar (uW (st:={st with up:=true,tail:=[],bE:=false,log:=(replay st.aE).1,sent:=(replay st.aE).2,aT:=cr (replay st.aE).1,held:=[],wait:=ie c.q r (replay st.aE).2 (replay st.aE).1}) (gd:=gd) (ds:=⟨cO st.aE,false,false,ds.keep⟩) ⟨W,gi,go,m,.slice none 0 0,vw⟩ rfl ⟨by simp,λ_=>rfl,rfl,(λh=>by cases h)⟩ ⟨F,rfl,ow⟩ M) rP,rfl,rfl⟩
theorem FA(gn:Nat)(c:aJ)(r:Int)(st:aG)(M:List aa)(g:eO k c r st)(f:k<=200):Fn prog 61 #[ay gn] (bD gn c r st::M) λv L'=>v=.int .i64 (st.start c r).2/\L'=bD gn c r (st.start c r).1::M:=by
 refine oD (λa dv ds vl sent b i o d=>Vx gn c r st dv ds vl sent b i o M g f a d) (λa dv ds x d h=>?_);have e:st.start c r=(st,19):=by unfold aG.start;rw[an a]
 rw[e];refine fo func61 ntmps61 ?_;refine rn ?_;intros;refine Ex.Lp ?_;refine rn ?_;intros;refine MN ?_;refine fr ?_;exact⟨_,kn x a d h M,rfl,rfl⟩
end
end
end Go.Proofs.YtogcfijlhpaeeaaGreat
