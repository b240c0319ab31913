/- Texts. No condition. -/
import Derived.Test.YtogcfijlhpaeeaaGreatYpbi
open Go.RowKit Go.Proofs.Tryz
set_option linter.all false
set_option maxHeartbeats 32000000
namespace Go.Proofs.YtogcfijlhpaeeaaGreat
variable{k:Nat}{r:Int}{c:aJ}{w:aD}{st:aG}
section
theorem QI.tk(q:QI k c w)(i:Int):QI k c {w with fl:=dQ w.fl i}:=
 ⟨⟨q.gd.n,q.gd.nd,q.gd.aO,by have:=q.gd.fl.1;have:=tE w.fl i;show(dQ w.fl i).length<=k;omega,λx hx=>q.gd.fl.2 x (xy hx)⟩,q.q,⟨q.gv.ok,⟨q.gv.al.nd,q.gv.al.aO,λx hx=>q.gv.al.fl x (xy hx)⟩⟩,λx hx=>q.ft x (xy hx)⟩
theorem QI.to(q:QI k c w){i:Int}(h:0<=i/\i<w.fl.length):(w.fl.getD i.toNat (0,aF.zero)).1=5\/w.has (w.fl.getD i.toNat (0,aF.zero)).1:=by have hi:i.toNat<w.fl.length:=U;rw[show w.fl.getD i.toNat (0,aF.zero)=w.fl[i.toNat]'hi by simp[cu,hi]];exact q.ft _ (bT hi)
theorem Xn(x:aF)(a mask:Int):(kE x a mask).2=0\/(kE x a mask).2=4:=by
 unfold kE;split
 ·exact .inl rfl
 ·exact .inr rfl
set_option maxRecDepth 20000 attribute [local irreducible] Ex aM Fn bI bJ bV fin meet ch aX bZ aP aN aI Rd aK Row ao Sub bk bP bS bN bg bR Hid bY
section
attribute [local irreducible] aA bA cc cF cv cE
theorem Y6(b:Nat)(c:aJ)(w:aD)(s:cB)(M:List aa)(q:QI k c w)(P:k<=80)(hs:s.Ok)(m9:4<=s.kind/\s.kind<=7):
  Fn prog 46 #[ay b,.agg (ab.cells s).toArray] (dr b c w::M)
   λv L'=>v=.int .i64 (w.eC c s).2/\L'=dr b c (w.eC c s).1::M:=by
 have W:=q.gd.ok U;obtain⟨j3,m8,m6⟩:=yF W;have n8:=hs.mask;obtain⟨mk,R⟩:∃mk:Nat,s.mask=mk:=⟨s.mask.toNat,U⟩;refine dr.fn λgh gl vs gs r C=>?_;refine wV (L':=cF gl w.keys::cY b c gh gl vs::di vs gs::aA (cv c gs w.nodes)::cc gh c w.aO::M) (cF.fn λv0 fs bs V m y=>?_) rP;have m7:fs.length=w.fl.length:=by rw[<-j3,<-m,bC]
 have j7:∀N,Sub (cF gl w.keys::N) (gD gl v0::dH v0 fs::cE bs::N):=λN=>xI V m y N;by_cases h5:s.kind=5
 ·refine fo func46 ntmps46 ?_;refine rn ?_;(repeat(first|intro(g:Nat)|intro h));revert g;intro i;refine bF (L':=gD gl v0::dH v0 fs::cE bs::cY b c gh gl vs::ao i 29 (ab.cells s)::di vs gs::aA (cv c gs w.nodes)::cc gh c w.aO::M) ?_ rP;refine bU 12 (cY b c gh gl vs::ao i 29 (ab.cells s)::di vs gs::aA (cv c gs w.nodes)::cc gh c w.aO::M) rfl rQ rF ?_;refine mn ?_;(repeat(first|intro(g:Nat)|intro h));refine ma [] call112 (Kl gl s.at_ v0 fs bs _ y) ?_;rw[BA,m];rintro _ _ ⟨u,ou,p,rfl,rfl⟩;by_cases d:0<=s.at_/\s.at_<w.fl.length
  ·have n:=xT W d;have j9:=qU _ n;have S:=q.to d;rw[zX d]at p⊢
   have e:w.eC c s=w.eJ c (w.fl.getD s.at_.toNat (0,aF.zero)).1 ((w.fl.getD s.at_.toNat (0,aF.zero)).2,0):=by unfold aD.eC;rw[an d];simp only[an h5];rw[ai U,ai U]
   rw[e];generalize w.fl.getD s.at_.toNat (0,aF.zero)=x at*
   refine bn ?_;refine br rF ?_;refine mn ?_;(repeat(first|intro(g:Nat)|intro h));refine bX J J J ?_;(first|refine fO 0 J J rE rN J J rE rE ?_|refine fD 0 J J J rC J J J rE ?_|refine fQ 0 J J J rE J J rE ?_);refine bn ?_;refine br rF ?_;refine mn ?_;(repeat(first|intro(g:Nat)|intro h));refine rn ?_;(repeat(first|intro(g:Nat)|intro h));refine cb (L':=cY b c gh gl vs::di vs gs::aA (cv c gs w.nodes)::cc gh c w.aO::gD gl v0::dH v0 fs::cE bs::M) ?_ rP;refine ca [] call113 (GQ (k:=k) b gh gl vs gs c w x.1 u x.2.bu (x.2,0) v0 fs bs M q P r C V m y (p.sub rB) ou (sX x.2 n) (.inl rfl) S) ?_;rintro _ _ ⟨rfl,rfl⟩;refine rn ?_;(repeat(first|intro(g:Nat)|intro h));refine fr ?_;exact⟨_,rP,rfl,rfl⟩
  ·rw[Ak d];have e:w.eC c s=(w,24):=by unfold aD.eC;rw[ai d]
   rw[e];refine bn ?_;refine br rF ?_;refine mn ?_;(repeat(first|intro(g:Nat)|intro h));refine bX J J J ?_;(first|refine fO 0 J J rE rN J J rE rE ?_|refine fD 0 J J J rC J J J rE ?_|refine fQ 0 J J J rE J J rE ?_);refine bn ?_;refine br rF ?_;refine mn ?_;(repeat(first|intro(g:Nat)|intro h));refine rn ?_;(repeat(first|intro(g:Nat)|intro h));refine fr ?_;exact⟨_,ar (nS r C M) (ar (B:=cF gl w.keys::cY b c gh gl vs::di vs gs::aA (cv c gs w.nodes)::cc gh c w.aO::M) rP (ar (j7 _) rP)),rfl,rfl⟩
 ·refine fo func46 ntmps46 ?_;refine rn ?_;(repeat(first|intro(g:Nat)|intro h));revert g;intro i;refine bF (L':=gD gl v0::dH v0 fs::cE bs::cY b c gh gl vs::ao i 29 (ab.cells s)::di vs gs::aA (cv c gs w.nodes)::cc gh c w.aO::M) ?_ rP;refine bU 12 (cY b c gh gl vs::ao i 29 (ab.cells s)::di vs gs::aA (cv c gs w.nodes)::cc gh c w.aO::M) rfl rQ rF ?_;refine mn ?_;(repeat(first|intro(g:Nat)|intro h));refine ma [] call114 (Pm gl s.at_ v0 fs bs _ y U V) ?_;rw[BA,m];rintro _ _ ⟨u,l,ou,H,p,rfl,rfl⟩;have o:(lf fs s.at_).map Fl.key=dQ w.keys s.at_:=by rw[IQ,m]
  have F:∀f∈lf fs s.at_,f.b∈bs:=λf hf=>y f (Kf hf);by_cases d:0<=s.at_/\s.at_<w.fl.length
  ·have n:=xT W d;have j9:=qU _ n;have S:=q.to d;rw[zX d]at p⊢
   obtain⟨a,j⟩:∃a:aD,a={w with fl:=dQ w.fl s.at_}:=⟨_,rfl⟩;have q2:QI k c a:=by rw[j];exact q.tk s.at_
   have Q:dQ w.keys s.at_=a.keys:=by rw[j];exact(Nj _ _ _).symm
   have L:gs.length=a.nodes.length:=by rw[j];exact C
   have j5:(w.fl.getD s.at_.toNat (0,aF.zero)).1=5\/a.has (w.fl.getD s.at_.toNat (0,aF.zero)).1:=by rw[j];exact S
   have e:w.eC c s=if s.kind=6 then(a,0)else a.eJ c (w.fl.getD s.at_.toNat (0,aF.zero)).1 (if s.kind=7 then kE (w.fl.getD s.at_.toNat (0,aF.zero)).2 s.bit s.mask else((w.fl.getD s.at_.toNat (0,aF.zero)).2,0)):=by unfold aD.eC;rw[an d];simp only[ai h5];rw[<-j]
   rw[e];rw[Q]at o;have en:aA (cv c gs w.nodes)=aA (cv c gs a.nodes):=by rw[j]
   have eh:w.aO=a.aO:=by rw[j]
   rw[en,eh];have j0:=JH n s.bit s.mask;have e9:=Xn (w.fl.getD s.at_.toNat (0,aF.zero)).2 s.bit s.mask;clear e en eh j;generalize w.fl.getD s.at_.toNat (0,aF.zero)=x at*
   refine bn ?_;refine br rF ?_;refine mn ?_;(repeat(first|intro(g:Nat)|intro h));revert g;intro z;refine bX J J J ?_;(first|refine fO 0 J J rE rN J J rE rE ?_|refine fD 0 J J J rC J J J rE ?_|refine fQ 0 J J J rE J J rE ?_);refine mw ?_;intros;by_cases h6:s.kind=6
   ·rw[an h6];refine rn ?_;intros;refine fr ?_;exact⟨_,ar (nS r L M) (ar (B:=cF gl a.keys::cY b c gh gl vs::di vs gs::aA (cv c gs a.nodes)::cc gh c a.aO::M) rP (ar (xI H o F _) rP)),rfl,rfl⟩
   ·rw[ai h6];by_cases h7:s.kind=7
    ·rw[an h7];have I:cV (ib x.2.bu (s.bit%(8*x.2.bu.length)).toNat mk)=kE x.2 s.bit s.mask:=by rw[<-j0,R,dc]
     clear j0;have j1:(((s.bit%(8*x.2.bu.length)).toNat:Nat):Int)=s.bit%(8*x.2.bu.length):=by
      have hp:0<x.2.bu.length:=by unfold aF.bu;rw[nJ];omega
      have h1:=sY s.bit (show(8*(x.2.bu.length:Int))≠0 by omega);omega
     refine rn ?_;intros;refine bF (L':=ao z 47 [.int .i64 x.1,u]::ao i 29 (ab.cells s)::cY b c gh gl vs::di vs gs::aA (cv c gs a.nodes)::cc gh c a.aO::gD gl l::dH l (lf fs s.at_)::cE bs::M) ?_ rP;refine bU 11 [ao z 47 [.int .i64 x.1,u],ao i 29 (ab.cells s)] rfl rQ (gC (bl _ (bl _ (eI _)))) ?_;refine mn ?_;intros;rw[R];refine ma [] call14 (HD u x.2.bu s.bit (s.bit%(8*x.2.bu.length)).toNat mk _ (p.sub (dt 8 rfl (eI _))) U U hs.bit (λ_=>j1)) ?_;rintro ub _ ⟨l8,rfl⟩;obtain⟨t,e8⟩:∃t,t=ib x.2.bu (s.bit%(8*x.2.bu.length)).toNat mk:=⟨_,rfl⟩;rw[<-e8]at I⊢
     rw[R]at I e9;clear e8 j1;refine bn ?_;refine br (gC (dt 1 rfl (dt 1 rfl (eI _)))) ?_;refine mn ?_;intros;refine aX.sub (ar (A:=cY b c gh gl vs::di vs gs::aA (cv c gs a.nodes)::cc gh c a.aO::gD gl l::dH l (lf fs s.at_)::cE bs::By ub t::ao z 47 [.int .i64 x.1,u]::ao i 29 (ab.cells s)::M) rP (bW _)) ?_;refine ma [] call113 (GQ (k:=k) b gh gl vs gs c a x.1 ub t (kE x.2 s.bit mk) l (lf fs s.at_) bs (By ub t::ao z 47 [.int .i64 x.1,u]::ao i 29 (ab.cells s)::M) q2 P r L H o F (gr 1 rfl) l8 I e9 j5) ?_;rintro _ _ ⟨rfl,rfl⟩;refine bn ?_;refine br (gC (dt 2 rfl (dt 2 rfl (eI _)))) ?_;refine mn ?_;intros;exact fX
    ·rw[ai h7];refine rn ?_;intros;refine cb (L':=cY b c gh gl vs::di vs gs::aA (cv c gs a.nodes)::cc gh c a.aO::gD gl l::dH l (lf fs s.at_)::cE bs::M) ?_ rP;refine ca [] call113 (GQ (k:=k) b gh gl vs gs c a x.1 u x.2.bu (x.2,0) l (lf fs s.at_) bs M q2 P r L H o F (p.sub rB) ou (sX x.2 n) (.inl rfl) j5) ?_;rintro _ _ ⟨rfl,rfl⟩;exact fX
  ·rw[Ak d];have e:w.eC c s=(w,24):=by unfold aD.eC;rw[ai d]
   rw[e];have Q:dQ w.keys s.at_=w.keys:=by unfold dQ;rw[ai (by rw[j3];exact d)]
   rw[Q]at o;refine mw ?_;intros;refine bX J J J ?_;(first|refine fO 0 J J rE rN J J rE rE ?_|refine fD 0 J J J rC J J J rE ?_|refine fQ 0 J J J rE J J rE ?_);refine mw ?_;intros;refine rn ?_;intros;refine fr ?_;exact⟨_,ar (nS r C M) (ar (B:=cF gl w.keys::cY b c gh gl vs::di vs gs::aA (cv c gs w.nodes)::cc gh c w.aO::M) rP (ar (xI H o F _) rP)),rfl,rfl⟩
end
section
attribute [local irreducible] aA bA cc cF cv cE
theorem Qz(b:Nat)(c:aJ)(w:aD)(s:cB)(M:List aa)(q:QI k c w)(m:k<=80)(d:s.kind=8\/s.kind=9\/s.kind=10):
  Fn prog 47 #[ay b,.agg (ab.cells s).toArray] (dr b c w::M)
   λv L'=>v=.int .i64 (w.dj c s).2/\L'=dr b c (w.dj c s).1::M:=by
 have n:=q.gd.ok U;have o:=n.n5;refine dr.fn λgh gl vs gs i f=>?_;by_cases j:s.r=5
 ·have a:¬w.has s.r:=λh=>by have:=h.2;omega
  refine fo func47 ntmps47 ?_;rcases d with d|d|d
  ·have e:w.dj c s=({w with aO:=w.aO.db},0):=by unfold aD.dj;rw[ai a,an j,an d]
   rw[e];refine rn ?_;(repeat(first|intro(g:Nat)|intro h));refine cb (L':=cc gh c w.aO::cY b c gh gl vs::di vs gs::aA (cv c gs w.nodes)::cF gl w.keys::M) ?_ rP;refine ca [] call70 (MT gh c w.aO _) ?_;rintro _ _ rfl;refine rn ?_;(repeat(first|intro(g:Nat)|intro h));refine fr ?_;exact⟨_,ar (nS (w:={w with aO:=w.aO.db}) (gh:=gh) (gl:=gl) i f M) rP,rfl,rfl⟩
  ·have e:w.dj c s=({w with aO:=(w.aO.start c).1},(w.aO.start c).2):=by unfold aD.dj;rw[ai a,an j,ai U,an d]
   rw[e];refine rn ?_;(repeat(first|intro(g:Nat)|intro h));refine cb (L':=cc gh c w.aO::cY b c gh gl vs::di vs gs::aA (cv c gs w.nodes)::cF gl w.keys::M) ?_ rP;refine ca [] call71 (JZ gh c w.aO _) ?_;rintro _ _ ⟨rfl,rfl⟩;refine rn ?_;(repeat(first|intro(g:Nat)|intro h));refine fr ?_;exact⟨_,ar (nS (w:={w with aO:=(w.aO.start c).1}) (gh:=gh) (gl:=gl) i f M) rP,rfl,rfl⟩
  ·have e:w.dj c s=({w with aO:=w.aO.cut s.keep},0):=by unfold aD.dj;rw[ai a,an j,ai U,ai U]
   rw[e];refine rn ?_;(repeat(first|intro(g:Nat)|intro h));revert g;intro l;refine bF (L':=cc gh c w.aO::cY b c gh gl vs::ao l 29 (ab.cells s)::di vs gs::aA (cv c gs w.nodes)::cF gl w.keys::M) ?_ rP;refine bU 7 (cY b c gh gl vs::ao l 29 (ab.cells s)::di vs gs::aA (cv c gs w.nodes)::cF gl w.keys::M) rfl rQ rF ?_;refine mn ?_;intros;refine ma [] call115 (Zd gh c w.aO s.keep _) ?_;rintro _ _ rfl;refine mw ?_;intros;refine rn ?_;intros;refine fr ?_;exact⟨_,ar (nS (w:={w with aO:=w.aO.cut s.keep}) (gh:=gh) (gl:=gl) i f M) rP,rfl,rfl⟩
 by_cases a:w.has s.r
 ·have p:=a.1;have r:=a.2;have t:s.r<gs.length:=U;refine fo func47 ntmps47 ?_;refine rn ?_;intros;refine ca [1] call48 (CR b gh gl vs c w s.r _ q.gd.n) ?_;rintro _ _ ⟨rfl,rfl⟩;rw[bf a];refine rn ?_;intros;refine ln ?_;intros;rw[<-pq U]
  (repeat' (first|(refine m1 ?_;intros)|(refine cG J J J (λh=>?_) (λh=>?_)<;>try(exfalso;omega))))
  rcases d with d|d|d
  ·have e:w.dj c s=(w.aZ s.r (w.node s.r).db,0):=by unfold aD.dj;rw[an a,an d]
   rw[e];refine rn ?_;intros;refine cb (L':=bA (gs.getD s.r.toNat ⟨0⟩).g c s.r (w.node s.r)::pt b gh gl vs gs c w s.r M) ?_ (ar (qz a _) rP);refine ca [] call68 (Ll _ c s.r (w.node s.r) _) ?_;rintro _ _ rfl;refine rn ?_;intros;refine fr ?_;exact⟨_,ve a _ i f M,rfl,rfl⟩
  ·have e:w.dj c s=(w.aZ s.r ((w.node s.r).start c s.r).1,((w.node s.r).start c s.r).2):=by unfold aD.dj;rw[an a,ai U,an d]
   rw[e];refine rn ?_;intros;refine cb (L':=bA (gs.getD s.r.toNat ⟨0⟩).g c s.r (w.node s.r)::pt b gh gl vs gs c w s.r M) ?_ (ar (qz a _) rP);refine ca [] call69 (Lj (k:=k) _ c s.r (w.node s.r) _ (q.gd.nd _ a) m) ?_;rintro _ _ ⟨rfl,rfl⟩;refine rn ?_;intros;refine fr ?_;exact⟨_,ve a _ i f M,rfl,rfl⟩
  ·have e:w.dj c s=(w.aZ s.r ((w.node s.r).cut s.keep),0):=by unfold aD.dj;rw[an a,ai U,ai U]
   rw[e];refine rn ?_;intros;refine cb (L':=bA (gs.getD s.r.toNat ⟨0⟩).g c s.r (w.node s.r)::pt b gh gl vs gs c w s.r M) ?_ (ar (qz a _) rP);refine ca [] call116 (Zb _ c s.r (w.node s.r) s.keep _) ?_;rintro _ _ rfl;refine rn ?_;intros;refine fr ?_;exact⟨_,ve a _ i f M,rfl,rfl⟩
 ·have e:w.dj c s=(w,1):=by unfold aD.dj;rw[ai a,ai j]
  rw[e];refine fo func47 ntmps47 ?_;refine rn ?_;intros;refine ca [1] call48 (CR b gh gl vs c w s.r _ q.gd.n) ?_;rintro _ _ ⟨rfl,rfl⟩;rw[bd a];refine rn ?_;intros;refine fr ?_;exact⟨_,ar (nS i f M) rP,rfl,rfl⟩
end
section
theorem DW(b:eO k c r st)(p:aF×Int)(a:p.2=0->p.1.cM):p.2=0->p.1.bu.length<=1000000:=λh=>by have:=qU _ (a h);omega
attribute [local irreducible] aA bA cc cF cv cE dr
theorem Ol(a:Nat)(c:aJ)(w:aD)(s:cB)(M:List aa)(q:QI k c w)(f:k<=80)(r:s.Ok):Fn prog 18 #[ay a,.agg (ab.cells s).toArray] (dr a c w::M)
  λv L'=>v=.int .i64 (w.step c s).2/\L'=dr a c (w.step c s).1::M:=by
 have x:=q.gd.ok U;have c7:=x.n5;by_cases m:4<=s.kind/\s.kind<=7
 ·have e:w.step c s=w.eC c s:=by unfold aD.step;rw[an m]
  rw[e];refine fo func18 ntmps18 ?_;refine rn ?_;(repeat(first|intro(g:Nat)|intro h));refine ca [1] call46 (Y6 (k:=k) a c w s _ q f r m) ?_;rintro _ _ ⟨rfl,rfl⟩;refine rn ?_;(repeat(first|intro(g:Nat)|intro h));refine fr ?_;exact⟨_,rP,rfl,rfl⟩
 by_cases p:8<=s.kind/\s.kind<=10
 ·have e:w.step c s=w.dj c s:=by unfold aD.step;rw[ai m,an p]
  rw[e];refine fo func18 ntmps18 ?_;refine rn ?_;(repeat(first|intro(g:Nat)|intro h));refine ca [1] call47 (Qz (k:=k) a c w s _ q f U) ?_;rintro _ _ ⟨rfl,rfl⟩;refine rn ?_;(repeat(first|intro(g:Nat)|intro h));refine fr ?_;exact⟨_,rP,rfl,rfl⟩
 have c8:s.kind≠4/\s.kind≠5/\s.kind≠6/\s.kind≠7/\s.kind≠8/\s.kind≠9/\s.kind≠10:=U;refine dr.fn λgh gl vs gs i d=>?_;refine fo func18 ntmps18 ?_;have t:s.kind<4\/10<s.kind:=U;refine pW 3 [0,3] (λI L'=>∃o,I=[ay a,ay o]/\L'=ao o 29 (ab.cells s)::tB a gh gl vs gs c w M) ?_ ?_
 rotate_left
 ·intro L;rcases t with t|t
  all_goals
   refine rn ?_;(repeat(first|intro(g:Nat)|intro h));exact L _ _ ⟨_,rP,g,av rfl (av rfl rfl),rfl⟩
 rintro I R L' ⟨o,rfl,rfl⟩;refine rn ?_;intros;refine ca [1] call48 (CR a gh gl vs c w s.r _ q.gd.n) ?_;rintro _ _ ⟨rfl,rfl⟩;by_cases b:w.has s.r
 case neg=>
  rw[bd b];have e:w.step c s=(w,1):=by unfold aD.step;rw[ai m,ai p,an b]
  rw[e];refine rn ?_;intros;refine fr ?_;exact⟨_,ar (nS i d M) rP,rfl,rfl⟩
 rw[bf b];have e:w.step c s=if s.kind=0 then(w.aZ s.r ((w.node s.r).edit c s.r s.ed).1,((w.node s.r).edit c s.r s.ed).2)else
   if s.kind=1 then w.send ((w.node s.r).push c s.r)else
   if s.kind=2 then w.send ((w.node s.r).tell s.r 3)else
   if s.kind=3 then w.send ((w.node s.r).tell s.r 5)else
   if s.kind=11 then(w.aZ s.r ((w.node s.r).state s.r).1,((w.node s.r).state s.r).2)else(w,1):=by unfold aD.step;rw[ai m,ai p,ai (by simpa using b)]
 rw[e];have c9:=b.1;have d6:=b.2;have d7:s.r<gs.length:=U;clear e;refine rn ?_;intros;refine ln ?_;intros;rw[<-pq U]
 (repeat' (first|(refine m1 ?_;intros)|(refine cG J J J (λh=>?_) (λh=>?_)<;>try(exfalso;omega))))
 have j:=x.node b;have l:=q.gd.nd _ b;obtain⟨W,V,S⟩:=yF x;have P:=r.key;have Q:=r.value;by_cases z:s.kind=0
 ·rw[an z];refine rn ?_;intros;refine cb (L':=bA (gs.getD s.r.toNat ⟨0⟩).g c s.r (w.node s.r)::pt a gh gl vs gs c w s.r M) ?_ (ar (qz b _) rP);refine ca [] call27 (KC (k:=k) _ c s.r (w.node s.r) s.ed _ l (q.q _ b) (q.zQ b) f P Q) ?_;rintro _ _ ⟨y,rfl,_,_,rfl⟩;refine rn ?_;intros;refine fr ?_;exact⟨_,ar (ve b _ i d M) rP,rfl,rfl⟩
 rw[ai z];by_cases A:s.kind=1
 ·rw[an A];refine rn ?_;intros;refine cb (L':=bA (gs.getD s.r.toNat ⟨0⟩).g c s.r (w.node s.r)::pt a gh gl vs gs c w s.r M) ?_ (ar (qz b _) rP);refine ca [] call50 (Uf (k:=k) _ c s.r (w.node s.r) _ l (q.q _ b) f) ?_;rintro _ _ ⟨u,n,rfl,rfl⟩;refine rn ?_;intros;refine cb (L':=cY a c gh gl vs::cF gl w.keys::di vs gs::aA (cv c gs w.nodes)::cc gh c w.aO::bB u (eU ((w.node s.r).push c s.r))::M) ?_ (ar (B:=aA (cv c gs w.nodes)::cY a c gh gl vs::cF gl w.keys::di vs gs::cc gh c w.aO::bB u (eU ((w.node s.r).push c s.r))::M) rP (ar (EE b _) rP));refine bc [] J call49 rE J (Du ((w.node s.r).push c s.r) a gh gl c vs u w.keys _ rD n U (DW j _ (λh=>wG j h))) ?_;rintro _ _ ⟨rfl,rfl⟩;refine rn ?_;intros;refine fr ?_;exact⟨_,ar (Cr ((w.node s.r).push c s.r) i d M) rP,rfl,rfl⟩
 rw[ai A];by_cases F:s.kind=2
 ·rw[an F];refine rn ?_;intros;refine cb (L':=bA (gs.getD s.r.toNat ⟨0⟩).g c s.r (w.node s.r)::pt a gh gl vs gs c w s.r M) ?_ (ar (qz b _) rP);refine ca [] call51 (Zh (k:=k) _ c s.r (w.node s.r) _ l f) ?_;rintro _ _ ⟨u,n,rfl,rfl⟩;refine rn ?_;intros;refine cb (L':=cY a c gh gl vs::cF gl w.keys::di vs gs::aA (cv c gs w.nodes)::cc gh c w.aO::bB u (eU ((w.node s.r).tell s.r 3))::M) ?_ (ar (B:=aA (cv c gs w.nodes)::cY a c gh gl vs::cF gl w.keys::di vs gs::cc gh c w.aO::bB u (eU ((w.node s.r).tell s.r 3))::M) rP (ar (EE b _) rP));refine bc [] J call49 rE J (Du ((w.node s.r).tell s.r 3) a gh gl c vs u w.keys _ rD n U (DW j _ (λh=>pP j U (.inl rfl) h))) ?_;rintro _ _ ⟨rfl,rfl⟩;refine rn ?_;intros;refine fr ?_;exact⟨_,ar (Cr ((w.node s.r).tell s.r 3) i d M) rP,rfl,rfl⟩
 rw[ai F];by_cases H:s.kind=3
 ·rw[an H];refine rn ?_;intros;refine cb (L':=bA (gs.getD s.r.toNat ⟨0⟩).g c s.r (w.node s.r)::pt a gh gl vs gs c w s.r M) ?_ (ar (qz b _) rP);refine ca [] call52 (Rz (k:=k) _ c s.r (w.node s.r) _ l f) ?_;rintro _ _ ⟨u,n,rfl,rfl⟩;refine rn ?_;intros;refine cb (L':=cY a c gh gl vs::cF gl w.keys::di vs gs::aA (cv c gs w.nodes)::cc gh c w.aO::bB u (eU ((w.node s.r).tell s.r 5))::M) ?_ (ar (B:=aA (cv c gs w.nodes)::cY a c gh gl vs::cF gl w.keys::di vs gs::cc gh c w.aO::bB u (eU ((w.node s.r).tell s.r 5))::M) rP (ar (EE b _) rP));refine bc [] J call49 rE J (Du ((w.node s.r).tell s.r 5) a gh gl c vs u w.keys _ rD n U (DW j _ (λh=>pP j U (.inr rfl) h))) ?_;rintro _ _ ⟨rfl,rfl⟩;refine rn ?_;intros;refine fr ?_;exact⟨_,ar (Cr ((w.node s.r).tell s.r 5) i d M) rP,rfl,rfl⟩
 rw[ai H];by_cases C:s.kind=11
 ·rw[an C];refine rn ?_;intros;refine cb (L':=bA (gs.getD s.r.toNat ⟨0⟩).g c s.r (w.node s.r)::pt a gh gl vs gs c w s.r M) ?_ (ar (qz b _) rP);refine ca [] call53 (Yp (k:=k) _ c s.r (w.node s.r) _ l f) ?_;rintro _ _ ⟨rfl,rfl⟩;refine rn ?_;intros;refine fr ?_;exact⟨_,ve b _ i d M,rfl,rfl⟩
 rw[ai C];refine rn ?_;intros;refine fr ?_;exact⟨_,ar (nS i d M) rP,rfl,rfl⟩
end
end
section
theorem Vu(c:aJ)(L:List aa):Sub (aA (cv c [] [])::L) L:=by unfold cv;exact ly _
set_option maxRecDepth 20000 attribute [local irreducible] Ex aM Fn bI bJ bV fin meet ch aX bZ aP aN aI Rd aK Row ao Sub bk bP bS bN bg bR Hid bY
section
attribute [local irreducible] aA bA cc cF cv cE
theorem TQ(c:aJ)(M:List aa)(d:c.aW):Fn prog 34 #[.agg (ab.cells c).toArray] M
  λv L'=>∃a,v=.tuple #[ay a,.int .i64 0]/\L'=dr a c (aD.new c)::M:=by
 have u:=d.n;refine fo func34 ntmps34 ?_;refine rn ?_;(repeat(first|intro(g:Nat)|intro(v:Value)|intro h));refine ca [] call90 (Vb c _ d) ?_;rintro _ _ ⟨gh,rfl,rfl⟩;refine rn ?_;(repeat(first|intro(g:Nat)|intro(v:Value)|intro h));revert g;intro a;revert g;intro gl;revert g;intro b;obtain⟨N,m⟩:∃N:Nat,c.n=N:=⟨c.n.toNat,U⟩;refine bF (L':=cY a c gh gl (.slice none 0 0)::di (.slice none 0 0) []::aA (cv c [] [])::cc gh c ((aY.fresh c).start c).1::cF gl []::ao b 23 (ab.cells c)::M) ?_ (bl _ (ar (cA (α:=Ptr) none 82 _) (ar (Vu c _) (ar (B:=cF gl []::cc gh c ((aY.fresh c).start c).1::ao b 23 (ab.cells c)::M) rP (ar (xI (fs:=[]) (bs:=[]) (v0:=.slice none 0 0) rfl rfl (by simp) _) (ar (bl _ (bl _ (cE.nil _))) (ar (bl _ (cA (α:=Fl) none 47 _)) rP)))))));refine bm [7] (λz l L'=>∃(j:Nat) (vs:Value) (gs:List Ptr),j<=N/\z=N-j/\vs.oneCell'=true/\gs.length=j/\l=[.int .i64 j]/\L'=cY a c gh gl vs::di vs gs::aA (cv c gs (ja c j))::cc gh c ((aY.fresh c).start c).1::cF gl []::ao b 23 (ab.cells c)::M) N ⟨0,.slice none 0 0,[],U,rfl,rfl,rfl,rfl,rfl⟩ ?_;rintro z l q p ⟨j,vs,gs,s,rfl,o,e,rfl,rfl⟩;refine bp [1,6,7] rG (λr=>?_);have f:(ja c j).length=j:=by unfold ja;rw[bC,zd]
 by_cases t:j<N
 ·have n:ja c (j+1)=ja c j++[(aG.fresh.start c j).1]:=by unfold ja;rw[wx,dA];rfl
  refine rn ?_;(repeat(first|intro(g:Nat)|intro(v:Value)|intro h));refine ca [] call91 (PA c j _ d U) ?_;rintro _ _ ⟨gn,rfl,rfl⟩;refine rn ?_;(repeat(first|intro(g:Nat)|intro(v:Value)|intro h));refine Ca (⟨gn⟩:Ptr) J J J J J J J J (λg=>?_);refine rn ?_;(repeat(first|intro(v:Value)|intro h));have k:=TF c gs (ja c j) ⟨gn⟩ (aG.fresh.start c j).1 (by rw[f];exact e);rw[f]at k;refine aS ⟨N-(j+1),cY a c gh gl v::di v (gs++[⟨gn⟩])::aA (cv c (gs++[⟨gn⟩]) (ja c (j+1)))::cc gh c ((aY.fresh c).start c).1::cF gl []::ao b 23 (ab.cells c)::M,U,?_,j+1,v,gs++[⟨gn⟩],U,rfl,by assumption,by simp[e],av (aQ U) rfl,rfl⟩;rw[n,k];exact ar (B:=aA (cv c gs (ja c j)++[bA gn c j (aG.fresh.start c j).1])::cY a c gh gl v::di v (gs++[⟨gn⟩])::cc gh c ((aY.fresh c).start c).1::cF gl []::ao b 23 (ab.cells c)::M) rP (ar (so _ _) rP)
 ·obtain rfl:j=N:=U;refine rn ?_;intros;refine fr ?_;have i:(aD.new c).nodes=ja c j:=by unfold aD.new ja;rw[m,dc]
  refine⟨_,ar (nS (gh:=gh) (gl:=gl) (vs:=vs) (gs:=gs) o (by rw[i,f];exact e) M) ?_,a,rfl,rfl⟩;show Sub (cY a c gh gl vs::di vs gs::aA (cv c gs (aD.new c).nodes)::cc gh c ((aY.fresh c).start c).1::cF gl []::M) _;rw[i];exact rP
attribute [local irreducible] dr
theorem MB(c:aJ)(M:List aa)(d:c.aW):Fn prog 12 #[.agg (ab.cells c).toArray] M
  λv L'=>∃a b,v=.tuple #[ay a,ay b]/\L'=bz a c (aD.new c)::dr b c (aD.new c)::M:=by
 refine fo func12 ntmps12 ?_;refine rn ?_;intros;refine ca [] call21 (Hk c _ d) ?_;rintro _ _ ⟨a,rfl,rfl⟩;refine rn ?_;intros;refine ca [] call34 (TQ c _ d) ?_;rintro _ _ ⟨b,rfl,rfl⟩;refine rn ?_;intros;refine fr ?_;exact⟨_,rP,a,b,rfl,rfl⟩
theorem Wk(a:Nat)(c:aJ)(w:aD)(M:List aa)(q:QI k c w)(e:k<=80):Fn prog 25 #[ay a,.int .i64 0] (dr a c w::M)
  λv L'=>L'=dr a c (w.re c)::M:=by
 have p:=q.gd.ok U;have I:=p.n5;have C:=q.gd.n;refine dr.fn λgh gl vs gs r A=>?_;refine fo func25 ntmps25 ?_;refine rn ?_;intros;have l:∀j,(w.cw c j).nodes.length=w.nodes.length:=λj=>by
  induction j with
  |zero=>rfl
  |succ j ih=>unfold aD.cw;rw[nG,ih]
 have o:∀j,(w.cw c j).aO=w.aO/\(w.cw c j).keys=w.keys:=λj=>by
  induction j with
  |zero=>exact⟨rfl,rfl⟩
  |succ j ih=>unfold aD.cw;exact ih
 obtain⟨N,hN⟩:∃N:Nat,w.nodes.length=N:=⟨_,rfl⟩;have y:c.n=N:=U;refine bm [4] (λz b L'=>∃(j:Nat),j<=N/\z=N-j/\b=[.int .i64 j]/\L'=cY a c gh gl vs::di vs gs::aA (cv c gs (w.cw c j).nodes)::cc gh c w.aO::cF gl w.keys::M) N ⟨0,U,rfl,rfl,rfl⟩ ?_;rintro z b u s ⟨j,F,rfl,rfl,rfl⟩;refine bp [0,1,4] rG (λn=>?_);by_cases H:j<N
 ·have d:(w.cw c j).has (j:Int):=⟨U,by rw[l];omega⟩;have i:j<gs.length:=U;have m:=(q.gd.cw j U).nd _ d;have h:gs[j]'i=gs.getD ((j:Int)).toNat ⟨0⟩:=by rw[dc];simp[cu,i]
  refine rn ?_;intros;rw[h];refine cb (L':=bA (gs.getD ((j:Int)).toNat ⟨0⟩).g c j ((w.cw c j).node (j:Int))::cY a c gh gl vs::di vs gs::tt c gs (w.cw c j) j::cc gh c w.aO::cF gl w.keys::M) ?_ (ar (B:=bA (gs.getD ((j:Int)).toNat ⟨0⟩).g c j ((w.cw c j).node (j:Int))::tt c gs (w.cw c j) j::cY a c gh gl vs::di vs gs::cc gh c w.aO::cF gl w.keys::M) rP (ar (DF d _) rP));refine ca [] call68 (Ll _ c j ((w.cw c j).node (j:Int)) _) ?_;rintro _ _ rfl;refine rn ?_;intros;rw[h];refine ca [] call69 (Lj (k:=k) _ c j ((w.cw c j).node (j:Int)).db _ m.db e) ?_;rintro _ _ ⟨rfl,rfl⟩;refine rn ?_;intros;refine aS ⟨N-(j+1),cY a c gh gl vs::di vs gs::aA (cv c gs (w.cw c (j+1)).nodes)::cc gh c w.aO::cF gl w.keys::M,U,?_,j+1,U,rfl,av (aQ U) rfl,rfl⟩;exact ar (B:=aA (cv c gs (w.cw c (j+1)).nodes)::cY a c gh gl vs::di vs gs::cc gh c w.aO::cF gl w.keys::M) rP (ar (EG d ((((w.cw c j).node (j:Int)).db).start c j).1 _) rP)
 ·obtain rfl:j=N:=U;refine rn ?_;intros;refine cb (L':=cc gh c w.aO::cY a c gh gl vs::di vs gs::aA (cv c gs (w.cw c j).nodes)::cF gl w.keys::M) ?_ rP;refine ca [] call70 (MT gh c w.aO _) ?_;rintro _ _ rfl;refine rn ?_;intros;refine ca [] call71 (JZ gh c w.aO.db _) ?_;rintro _ _ ⟨rfl,rfl⟩;refine rn ?_;intros;refine bm [5] (λz b L'=>z=0/\b=[.int .i64 0]/\L'=cc gh c (w.aO.db.start c).1::cY a c gh gl vs::di vs gs::aA (cv c gs (w.cw c j).nodes)::cF gl w.keys::M) 0 ⟨rfl,rfl,rfl⟩ ?_;rintro z b x t ⟨rfl,rfl,rfl⟩;refine bp [0,1,5] rG (λn=>?_);refine rn ?_;intros;refine fr ?_;have f:w.re c={w.cw c j with aO:=(w.aO.db.start c).1}:=by unfold aD.re;rw[hN]
  have e:(w.re c).keys=w.keys:=by rw[f];exact(o j).2
  refine⟨_,ar (nS (w:=w.re c) (gh:=gh) (gl:=gl) (vs:=vs) (gs:=gs) r (by rw[f];show gs.length=(w.cw c j).nodes.length;rw[l];omega) M) ?_,rfl⟩;show Sub (cY a c gh gl vs::di vs gs::aA (cv c gs (w.re c).nodes)::cc gh c (w.re c).aO::cF gl (w.re c).keys::M) _;rw[e,f];exact rP
end
end
end Go.Proofs.YtogcfijlhpaeeaaGreat
