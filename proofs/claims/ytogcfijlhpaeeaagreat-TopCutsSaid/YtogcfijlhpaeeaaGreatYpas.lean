/- Texts. No condition. -/
import Derived.Test.YtogcfijlhpaeeaaGreatYpar
open Go.RowKit Go.Proofs.Tryz
set_option linter.all false
set_option maxHeartbeats 32000000
namespace Go.Proofs.YtogcfijlhpaeeaaGreat
variable{k:Nat}{r:Int}{c:aJ}{gs:List Ptr}
section
def dM.zero:dM:=⟨aj.zero,0,0,0⟩
instance:ab dM:=⟨8,λs=>[.int .i64 s.aT.a,.int .i64 s.aT.b,.int .i64 s.aT.c,.int .i64 s.aT.d,.int .i64 s.aT.e,.int .i64 s.sent,.int .i64 s.held,.int .i64 s.log],by decide,λ_=>rfl,λ_=>rfl⟩
structure ko where
 aO:ki
 n0:dM
 n1:dM
 n2:dM
 n3:dM
 n4:dM
deriving DecidableEq
instance:ab ko:=⟨76,λs=>ab.cells s.aO++ab.cells s.n0++ab.cells s.n1++ab.cells s.n2++ab.cells s.n3++ab.cells s.n4,by decide,λ_=>rfl,λ_=>rfl⟩
def ko.zero:ko:=⟨⟨false,⟨aj.zero,aj.zero,aj.zero,aj.zero,aj.zero,aj.zero,aj.zero⟩⟩,dM.zero,dM.zero,dM.zero,dM.zero,dM.zero⟩
def aD.wF(w:aD)(j i:Nat):dM:=if i<j then(w.nodes.getD i aG.fresh).eo else dM.zero
def aD.iJ(w:aD)(j:Nat):ko:=⟨w.aO.gg,w.wF j 0,w.wF j 1,w.wF j 2,w.wF j 3,w.wF j 4⟩
def aD.qe(w:aD):ko:=w.iJ w.nodes.length
set_option maxRecDepth 20000 attribute [local irreducible] Ex aM Fn bI bJ bV fin meet ch aX bZ aP aN aI Rd aK Row ao Sub bk bP bS bN bg bR Hid bY
section
attribute [local irreducible] aA bD bL cx cQ
theorem JG(a gh gl:Nat)(vs:Value)(gs:List Ptr)(c:aJ)(w:aD)(M:List aa)(s:dE k c w)(hk:k<=198)(ov:O1 vs)(W:gs.length=w.nodes.length):
  Fn prog 64 #[ay a] (dh a gh gl vs gs c w M) λv L'=>v=.agg (ab.cells w.qe).toArray/\L'=dh a gh gl vs gs c w M:=by
 have d6:=s.n5;refine fo func64 ntmps64 ?_;refine rn ?_;(repeat(first|intro(g:Nat)|intro h));refine ca [4] call36 (Ji (k:=k) gh c w.aO _ s.aO U) ?_;rintro _ _ ⟨rfl,rfl⟩;have r:ab.cells (w.iJ 0)=ab.cells w.aO.gg++List.replicate 40 (.int .i64 0):=rfl;generalize hhs:w.aO.gg=hs at r;refine rn ?_;(repeat(first|intro(g:Nat)|intro h));rename_i d;revert g;intro l;refine bF (L':=ao l 132 (ab.cells (w.iJ 0))::eG a gh gl vs::eZ vs gs::aA (cQ c gs w.nodes)::bL gh c w.aO::cx gl w.keys::ao d 132 (ab.cells ko.zero)::M) ?_ (by rw[r];exact rP);clear r;refine bm [19] (λz F L'=>∃(j:Nat),j<=w.nodes.length/\z=w.nodes.length-j/\F=[.int .i64 j]/\L'=ao l 132 (ab.cells (w.iJ j))::eG a gh gl vs::eZ vs gs::aA (cQ c gs w.nodes)::bL gh c w.aO::cx gl w.keys::ao d 132 (ab.cells ko.zero)::M) w.nodes.length ⟨0,U,rfl,rfl,rfl⟩ ?_;rintro z F S R ⟨j,hj,rfl,rfl,rfl⟩;refine bp [2,3,17,18,19] rG (λV=>?_);by_cases c9:j<w.nodes.length
 ·have q:w.has (j:Int):=⟨U,U⟩;have P:=s.node q;have u:j<gs.length:=U;have x:((j:Int)).toNat=j:=dc j;refine rn ?_;(repeat(first|intro(g:Nat)|intro h));have H:gs[j]'u=gs.getD (j:Int).toNat ⟨0⟩:=by rw[x];simp[cu,u]
  refine bF (L':=bD (gs.getD (j:Int).toNat ⟨0⟩).g c j (w.node j)::ao l 132 (ab.cells (w.iJ j))::eG a gh gl vs::eZ vs gs::qD c gs w j::bL gh c w.aO::cx gl w.keys::ao d 132 (ab.cells ko.zero)::M) ?_ (ar (B:=bD (gs.getD (j:Int).toNat ⟨0⟩).g c j (w.node j)::jk a gh gl vs gs c w j (ao l 132 (ab.cells (w.iJ j))::ao d 132 (ab.cells ko.zero)::M)) rP (ar (lh q _) rP));rw[H];refine bU 7 M rfl rQ rF ?_;refine mn ?_;(repeat(first|intro(g:Nat)|intro h));refine ma [] call58 (NP (k:=k) _ c j (w.node j) _ P U) ?_;rintro _ _ ⟨A,C,d9,e8,rfl,rfl⟩;have n:(w.nodes.getD j aG.fresh).eo=⟨(w.node j).site.aT,(w.node j).site.sent,(w.node j).site.held.length,(w.node j).site.log.length⟩:=by
   have:w.node j=w.nodes.getD j aG.fresh:=by unfold aD.node;rw[x]
   rw[this];rfl
  have d8:=λi=>show w.wF (j+1) i=if i<j+1 then(w.nodes.getD i aG.fresh).eo else dM.zero from rfl
  obtain⟨p,L⟩:∃p,p=(w.node j).site:=⟨_,rfl⟩;rw[<-L]at n⊢
  have o:∀f:Nat,Sub (ao l 132 (ab.cells (w.iJ (j+1)))::eG a gh gl vs::eZ vs gs::aA (cQ c gs w.nodes)::bL gh c w.aO::cx gl w.keys::ao d 132 (ab.cells ko.zero)::M) (ao l 132 (ab.cells (w.iJ (j+1)))::ao f 65 (mB p A C)::je A p.held::je C p.log::bD (gs.getD (j:Int).toNat ⟨0⟩).g c j (w.node j)::eG a gh gl vs::eZ vs gs::qD c gs w j::bL gh c w.aO::cx gl w.keys::ao d 132 (ab.cells ko.zero)::M):=λf=>
   bl _ (ar (B:=aA (cQ c gs w.nodes)::eG a gh gl vs::eZ vs gs::bL gh c w.aO::cx gl w.keys::ao d 132 (ab.cells ko.zero)::M) rP (ar (Gl q _) rP))
  have I:j=0\/j=1\/j=2\/j=3\/j=4:=U;rcases I with rfl|rfl|rfl|rfl|rfl
  ·have m:w.iJ 0=⟨w.aO.gg,dM.zero,dM.zero,dM.zero,dM.zero,dM.zero⟩:=rfl;have b:w.iJ (0+1)=⟨w.aO.gg,(w.nodes.getD 0 aG.fresh).eo,dM.zero,dM.zero,dM.zero,dM.zero⟩:=rfl;rw[n]at b;rw[m];refine bn ?_;refine br rF ?_;refine mn ?_;(repeat(first|intro(g:Nat)|intro h));refine bX J J J ?_;(first|refine fO 0 J J rE rN J J rE rE ?_|refine fD 0 J J J rC J J J rE ?_|refine fQ 0 J J J rE J J rE ?_);refine bn ?_;refine br rF ?_;refine mn ?_;(repeat(first|intro(g:Nat)|intro h));refine rn ?_;(repeat(first|intro(g:Nat)|intro h));revert g;intro f;refine fh [4] rE ?_;refine bU 23 (_::_::_::_::_::_::_::_::_::_::M) rfl rQ rF ?_;refine mn ?_;(repeat(first|intro(g:Nat)|intro h));refine bX J J J ?_;refine qZ 0 J J J rC J J J rE rE ?_;refine bn ?_;refine br rF ?_
   (repeat' (first|(refine m1 ?_;(repeat(first|intro(g:Nat)|intro h)))|(refine cG J J J (λh=>?_) (λh=>?_)<;>try(exfalso;omega))))
   refine bX J J J ?_;(first|refine fO 0 J J rE rN J J rE rE ?_|refine fD 0 J J J rC J J J rE ?_|refine fQ 0 J J J rE J J rE ?_);refine bn ?_;refine br rF ?_;refine mn ?_;(repeat(first|intro(g:Nat)|intro h))
   (repeat' (first|(refine m1 ?_;(repeat(first|intro(g:Nat)|intro h)))|(refine cG J J J (λh=>?_) (λh=>?_)<;>try(exfalso;omega))))
   refine bX J J J ?_;(first|refine fO 0 J J rE rN J J rE rE ?_|refine fD 0 J J J rC J J J rE ?_|refine fQ 0 J J J rE J J rE ?_);refine bn ?_;refine br rF ?_;refine mn ?_;(repeat(first|intro(g:Nat)|intro h))
   (repeat' (first|(refine m1 ?_;(repeat(first|intro(g:Nat)|intro h)))|(refine cG J J J (λh=>?_) (λh=>?_)<;>try(exfalso;omega))))
   refine rn ?_;(repeat(first|intro(g:Nat)|intro h));refine aS ⟨w.nodes.length-(0+1),ao l 132 (ab.cells (w.iJ (0+1)))::eG a gh gl vs::eZ vs gs::aA (cQ c gs w.nodes)::bL gh c w.aO::cx gl w.keys::ao d 132 (ab.cells ko.zero)::M,U,?_,0+1,U,rfl,av (aQ U) rfl,rfl⟩;have h:=o f;rw[b]at h⊢
   exact h
  ·have m:w.iJ 1=⟨w.aO.gg,(w.nodes.getD 0 aG.fresh).eo,dM.zero,dM.zero,dM.zero,dM.zero⟩:=rfl;have b:w.iJ (1+1)=⟨w.aO.gg,(w.nodes.getD 0 aG.fresh).eo,(w.nodes.getD 1 aG.fresh).eo,dM.zero,dM.zero,dM.zero⟩:=rfl;rw[n]at b;rw[m];generalize (w.nodes.getD 0 aG.fresh).eo=t at*
   refine bn ?_;refine br rF ?_;refine mn ?_;(repeat(first|intro(g:Nat)|intro h));refine bX J J J ?_;(first|refine fO 0 J J rE rN J J rE rE ?_|refine fD 0 J J J rC J J J rE ?_|refine fQ 0 J J J rE J J rE ?_);refine bn ?_;refine br rF ?_;refine mn ?_;(repeat(first|intro(g:Nat)|intro h));refine rn ?_;(repeat(first|intro(g:Nat)|intro h));revert g;intro f;refine fh [4] rE ?_;refine bU 23 (_::_::_::_::_::_::_::_::_::_::M) rfl rQ rF ?_;refine mn ?_;(repeat(first|intro(g:Nat)|intro h));refine bX J J J ?_;refine qZ 0 J J J rC J J J rE rE ?_;refine bn ?_;refine br rF ?_
   (repeat' (first|(refine m1 ?_;(repeat(first|intro(g:Nat)|intro h)))|(refine cG J J J (λh=>?_) (λh=>?_)<;>try(exfalso;omega))))
   refine bX J J J ?_;(first|refine fO 0 J J rE rN J J rE rE ?_|refine fD 0 J J J rC J J J rE ?_|refine fQ 0 J J J rE J J rE ?_);refine bn ?_;refine br rF ?_;refine mn ?_;(repeat(first|intro(g:Nat)|intro h))
   (repeat' (first|(refine m1 ?_;(repeat(first|intro(g:Nat)|intro h)))|(refine cG J J J (λh=>?_) (λh=>?_)<;>try(exfalso;omega))))
   refine bX J J J ?_;(first|refine fO 0 J J rE rN J J rE rE ?_|refine fD 0 J J J rC J J J rE ?_|refine fQ 0 J J J rE J J rE ?_);refine bn ?_;refine br rF ?_;refine mn ?_;(repeat(first|intro(g:Nat)|intro h))
   (repeat' (first|(refine m1 ?_;(repeat(first|intro(g:Nat)|intro h)))|(refine cG J J J (λh=>?_) (λh=>?_)<;>try(exfalso;omega))))
   refine rn ?_;(repeat(first|intro(g:Nat)|intro h));refine aS ⟨w.nodes.length-(1+1),ao l 132 (ab.cells (w.iJ (1+1)))::eG a gh gl vs::eZ vs gs::aA (cQ c gs w.nodes)::bL gh c w.aO::cx gl w.keys::ao d 132 (ab.cells ko.zero)::M,U,?_,1+1,U,rfl,av (aQ U) rfl,rfl⟩;have h:=o f;rw[b]at h⊢
   exact h
  ·have m:w.iJ 2=⟨w.aO.gg,(w.nodes.getD 0 aG.fresh).eo,(w.nodes.getD 1 aG.fresh).eo,dM.zero,dM.zero,dM.zero⟩:=rfl;have b:w.iJ (2+1)=⟨w.aO.gg,(w.nodes.getD 0 aG.fresh).eo,(w.nodes.getD 1 aG.fresh).eo,(w.nodes.getD 2 aG.fresh).eo,dM.zero,dM.zero⟩:=rfl;rw[n]at b;rw[m];generalize (w.nodes.getD 0 aG.fresh).eo=t at*
   generalize (w.nodes.getD 1 aG.fresh).eo=y at*
   refine bn ?_;refine br rF ?_;refine mn ?_;(repeat(first|intro(g:Nat)|intro h));refine bX J J J ?_;(first|refine fO 0 J J rE rN J J rE rE ?_|refine fD 0 J J J rC J J J rE ?_|refine fQ 0 J J J rE J J rE ?_);refine bn ?_;refine br rF ?_;refine mn ?_;(repeat(first|intro(g:Nat)|intro h));refine rn ?_;(repeat(first|intro(g:Nat)|intro h));revert g;intro f;refine fh [4] rE ?_;refine bU 23 (_::_::_::_::_::_::_::_::_::_::M) rfl rQ rF ?_;refine mn ?_;(repeat(first|intro(g:Nat)|intro h));refine bX J J J ?_;refine qZ 0 J J J rC J J J rE rE ?_;refine bn ?_;refine br rF ?_
   (repeat' (first|(refine m1 ?_;(repeat(first|intro(g:Nat)|intro h)))|(refine cG J J J (λh=>?_) (λh=>?_)<;>try(exfalso;omega))))
   refine bX J J J ?_;(first|refine fO 0 J J rE rN J J rE rE ?_|refine fD 0 J J J rC J J J rE ?_|refine fQ 0 J J J rE J J rE ?_);refine bn ?_;refine br rF ?_;refine mn ?_;(repeat(first|intro(g:Nat)|intro h))
   (repeat' (first|(refine m1 ?_;(repeat(first|intro(g:Nat)|intro h)))|(refine cG J J J (λh=>?_) (λh=>?_)<;>try(exfalso;omega))))
   refine bX J J J ?_;(first|refine fO 0 J J rE rN J J rE rE ?_|refine fD 0 J J J rC J J J rE ?_|refine fQ 0 J J J rE J J rE ?_);refine bn ?_;refine br rF ?_;refine mn ?_;(repeat(first|intro(g:Nat)|intro h))
   (repeat' (first|(refine m1 ?_;(repeat(first|intro(g:Nat)|intro h)))|(refine cG J J J (λh=>?_) (λh=>?_)<;>try(exfalso;omega))))
   refine rn ?_;(repeat(first|intro(g:Nat)|intro h));refine aS ⟨w.nodes.length-(2+1),ao l 132 (ab.cells (w.iJ (2+1)))::eG a gh gl vs::eZ vs gs::aA (cQ c gs w.nodes)::bL gh c w.aO::cx gl w.keys::ao d 132 (ab.cells ko.zero)::M,U,?_,2+1,U,rfl,av (aQ U) rfl,rfl⟩;have h:=o f;rw[b]at h⊢
   exact h
  ·have m:w.iJ 3=⟨w.aO.gg,(w.nodes.getD 0 aG.fresh).eo,(w.nodes.getD 1 aG.fresh).eo,(w.nodes.getD 2 aG.fresh).eo,dM.zero,dM.zero⟩:=rfl;have b:w.iJ (3+1)=⟨w.aO.gg,(w.nodes.getD 0 aG.fresh).eo,(w.nodes.getD 1 aG.fresh).eo,(w.nodes.getD 2 aG.fresh).eo,(w.nodes.getD 3 aG.fresh).eo,dM.zero⟩:=rfl;rw[n]at b;rw[m];generalize (w.nodes.getD 0 aG.fresh).eo=t at*
   generalize (w.nodes.getD 1 aG.fresh).eo=y at*
   generalize (w.nodes.getD 2 aG.fresh).eo=Q at*
   refine bn ?_;refine br rF ?_;refine mn ?_;(repeat(first|intro(g:Nat)|intro h));refine bX J J J ?_;(first|refine fO 0 J J rE rN J J rE rE ?_|refine fD 0 J J J rC J J J rE ?_|refine fQ 0 J J J rE J J rE ?_);refine bn ?_;refine br rF ?_;refine mn ?_;(repeat(first|intro(g:Nat)|intro h));refine rn ?_;(repeat(first|intro(g:Nat)|intro h));revert g;intro f;refine fh [4] rE ?_;refine bU 23 (_::_::_::_::_::_::_::_::_::_::M) rfl rQ rF ?_;refine mn ?_;(repeat(first|intro(g:Nat)|intro h));refine bX J J J ?_;refine qZ 0 J J J rC J J J rE rE ?_;refine bn ?_;refine br rF ?_
   (repeat' (first|(refine m1 ?_;(repeat(first|intro(g:Nat)|intro h)))|(refine cG J J J (λh=>?_) (λh=>?_)<;>try(exfalso;omega))))
   refine bX J J J ?_;(first|refine fO 0 J J rE rN J J rE rE ?_|refine fD 0 J J J rC J J J rE ?_|refine fQ 0 J J J rE J J rE ?_);refine bn ?_;refine br rF ?_;refine mn ?_;(repeat(first|intro(g:Nat)|intro h))
   (repeat' (first|(refine m1 ?_;(repeat(first|intro(g:Nat)|intro h)))|(refine cG J J J (λh=>?_) (λh=>?_)<;>try(exfalso;omega))))
   refine bX J J J ?_;(first|refine fO 0 J J rE rN J J rE rE ?_|refine fD 0 J J J rC J J J rE ?_|refine fQ 0 J J J rE J J rE ?_);refine bn ?_;refine br rF ?_;refine mn ?_;(repeat(first|intro(g:Nat)|intro h))
   (repeat' (first|(refine m1 ?_;(repeat(first|intro(g:Nat)|intro h)))|(refine cG J J J (λh=>?_) (λh=>?_)<;>try(exfalso;omega))))
   refine rn ?_;(repeat(first|intro(g:Nat)|intro h));refine aS ⟨w.nodes.length-(3+1),ao l 132 (ab.cells (w.iJ (3+1)))::eG a gh gl vs::eZ vs gs::aA (cQ c gs w.nodes)::bL gh c w.aO::cx gl w.keys::ao d 132 (ab.cells ko.zero)::M,U,?_,3+1,U,rfl,av (aQ U) rfl,rfl⟩;have h:=o f;rw[b]at h⊢
   exact h
  ·have m:w.iJ 4=⟨w.aO.gg,(w.nodes.getD 0 aG.fresh).eo,(w.nodes.getD 1 aG.fresh).eo,(w.nodes.getD 2 aG.fresh).eo,(w.nodes.getD 3 aG.fresh).eo,dM.zero⟩:=rfl;have b:w.iJ (4+1)=⟨w.aO.gg,(w.nodes.getD 0 aG.fresh).eo,(w.nodes.getD 1 aG.fresh).eo,(w.nodes.getD 2 aG.fresh).eo,(w.nodes.getD 3 aG.fresh).eo,(w.nodes.getD 4 aG.fresh).eo⟩:=rfl;rw[n]at b;rw[m];generalize (w.nodes.getD 0 aG.fresh).eo=t at*
   generalize (w.nodes.getD 1 aG.fresh).eo=y at*
   generalize (w.nodes.getD 2 aG.fresh).eo=Q at*
   generalize (w.nodes.getD 3 aG.fresh).eo=s3 at*
   refine bn ?_;refine br rF ?_;refine mn ?_;(repeat(first|intro(g:Nat)|intro h));refine bX J J J ?_;(first|refine fO 0 J J rE rN J J rE rE ?_|refine fD 0 J J J rC J J J rE ?_|refine fQ 0 J J J rE J J rE ?_);refine bn ?_;refine br rF ?_;refine mn ?_;(repeat(first|intro(g:Nat)|intro h));refine rn ?_;(repeat(first|intro(g:Nat)|intro h));revert g;intro f;refine fh [4] rE ?_;refine bU 23 (_::_::_::_::_::_::_::_::_::_::M) rfl rQ rF ?_;refine mn ?_;intros;refine bX J J J ?_;refine qZ 0 J J J rC J J J rE rE ?_;refine bn ?_;refine br rF ?_
   (repeat' (first|(refine m1 ?_;intros)|(refine cG J J J (λh=>?_) (λh=>?_)<;>try(exfalso;omega))))
   refine bX J J J ?_;(first|refine fO 0 J J rE rN J J rE rE ?_|refine fD 0 J J J rC J J J rE ?_|refine fQ 0 J J J rE J J rE ?_);refine mw ?_;intros
   (repeat' (first|(refine m1 ?_;intros)|(refine cG J J J (λh=>?_) (λh=>?_)<;>try(exfalso;omega))))
   refine bX J J J ?_;(first|refine fO 0 J J rE rN J J rE rE ?_|refine fD 0 J J J rC J J J rE ?_|refine fQ 0 J J J rE J J rE ?_);refine mw ?_;intros
   (repeat' (first|(refine m1 ?_;intros)|(refine cG J J J (λh=>?_) (λh=>?_)<;>try(exfalso;omega))))
   refine rn ?_;intros;refine aS ⟨w.nodes.length-(4+1),ao l 132 (ab.cells (w.iJ (4+1)))::eG a gh gl vs::eZ vs gs::aA (cQ c gs w.nodes)::bL gh c w.aO::cx gl w.keys::ao d 132 (ab.cells ko.zero)::M,U,?_,4+1,U,rfl,av (aQ U) rfl,rfl⟩;have h:=o f;rw[b]at h⊢
   exact h
 ·obtain rfl:j=w.nodes.length:=U;have e:w.iJ w.nodes.length=w.qe:=rfl;rw[e];generalize w.qe=sw;exact fX
end
end
section
structure Mv where
 f:FuncId
 g:Nat
instance:Inhabited Mv:=⟨⟨0,0⟩⟩
instance:ab Mv:=⟨1,λm=>[.func (.func m.f) #[.pointer (some ⟨m.g,0,none⟩)] #[]],by decide,λ_=>rfl,λ_=>rfl⟩
theorem Be(w:aD)(c:aJ):∀i,(w.gI c i).nodes.length=w.nodes.length:=by
 have a:∀(w:aD) p,(w.once c p).nodes.length=w.nodes.length:=λw p=>by
  unfold aD.once;split
  ·rfl
  ·simp only;split
   ·exact iw ..
   ·rfl
 intro i
 induction i with
 |zero=>rfl
 |succ i ih=>show(aD.once _ c _).nodes.length=_;rw[a,ih]
variable{w:aD}
theorem wJ{gh gl:Nat}{vs:Value}(a:w.has r)(M:List aa):Sub (dh k gh gl vs gs c w M) (bD (gs.getD r.toNat ⟨0⟩).g c r (w.node r)::jk k gh gl vs gs c w r M):=
 ar (B:=aA (cQ c gs w.nodes)::eG k gh gl vs::eZ vs gs::bL gh c w.aO::cx gl w.keys::M) rP (ar (Gl a _) rP)
def jA(gn:Nat):List Mv:=[⟨42,gn⟩,⟨43,gn⟩,⟨44,gn⟩]
set_option maxRecDepth 20000 attribute [local irreducible] Ex aM Fn bI bJ bV fin meet ch aX bZ aP aN aI Rd aK Row ao Sub bk bP bS bN bg bR Hid bY
section
attribute [local irreducible] aA bD bL cx cQ Pt uz fV ei
theorem QY{kk:Nat}(b gh gl m:Nat)(vs:Value)(gs:List Ptr)(c:aJ)(w:aD)(j:aa)(M:List aa)(l a:Nat)(fn:FuncId)(f:Array Value)(p V:Nat)(A B:Code)(fb:Nat->Value)
  (j0:∀i,i<=3*w.nodes.length->dE kk c (w.gI c i))(hk:kk<=198)(ov:O1 vs)(l9:gs.length=w.nodes.length)
  (d6:f.size=V)(hp:p<V)(c8:∀t,f.getD t undef=fb t)
  (c7:∀(w':aD) (x:aF) (u:Value) (d9:List aa),dE kk c w'->w'.nodes.length=w.nodes.length->x.cM->O1 u->
   ei l prog V A (uQ l prog V (dO .ready fn f p A B a) (dO .busy fn f p A B a) B (λC=>C=bB u x.bu::dh b gh gl vs gs c (w'.once c (x,0)) (j::d9))) (aZ fb p u) (Pt l (dO .ready fn f p A B a)::bB u x.bu::dh b gh gl vs gs c w' (j::d9))):
  Fn prog 134 #[.func (.yield l) #[] #[],ay m] (Pt l (dO .ready fn f p A B a)::Pt a (.deferred (some []))::ao m 32 [ay b]::dh b gh gl vs gs c w (j::M))
   λv L'=>∃C,L'=Pt l (dO .ready fn f p A B a)::Pt a (.deferred (some []))::C/\C=ao m 32 [ay b]::dh b gh gl vs gs c (w.round c) (j::M):=by
 have e9:=(j0 0 (eM _)).n5;have e9:w.nodes.length<=5/\1<=w.nodes.length:=e9;refine fo func134 ntmps134 ?_;refine rn ?_;(repeat(first|intro(g:Nat)|intro(zs:List _)|intro h));refine bm [14] (λz R L'=>∃(i:Nat),i<=w.nodes.length/\z=w.nodes.length-i/\R=[.int .i64 i]/\L'=Pt l (dO .ready fn f p A B a)::Pt a (.deferred (some []))::ao m 32 [ay b]::dh b gh gl vs gs c (w.gI c (3*i)) (j::M)) w.nodes.length ⟨0,U,rfl,rfl,rfl⟩ ?_;rintro z R g1 L1 ⟨i,hi,rfl,rfl,rfl⟩;refine bp [0,12,13,14] rG (λgk=>?_);by_cases m8:i<w.nodes.length
 ·have s:i<gs.length:=U;have j9:((i:Int)).toNat=i:=dc i;have j8:gs[i]'s=gs.getD (i:Int).toNat ⟨0⟩:=by rw[j9];simp[cu,s]
  refine rn ?_;(repeat(first|intro(g:Nat)|intro(zs:List _)|intro h));refine xJ (parts:=[(0,.tmp 19),(1,.tmp 21),(2,.tmp 23)]) (ps:=[(0,[(.func (.func 42) #[.pointer (some ⟨(gs[i]'s).g,0,none⟩)] #[])]),(1,[(.func (.func 43) #[.pointer (some ⟨(gs[i]'s).g,0,none⟩)] #[])]),(2,[(.func (.func 44) #[.pointer (some ⟨(gs[i]'s).g,0,none⟩)] #[])])]) (vs:=[(.func (.func 42) #[.pointer (some ⟨(gs[i]'s).g,0,none⟩)] #[]),(.func (.func 43) #[.pointer (some ⟨(gs[i]'s).g,0,none⟩)] #[]),(.func (.func 44) #[.pointer (some ⟨(gs[i]'s).g,0,none⟩)] #[])]) (zs:=[.nilFunc]) (jA (gs[i]'s).g) J J J J J J rQ J (wM J J (wM J J (wM J J Dz))) J rfl rfl rfl (λg=>?_);refine rn ?_;(repeat(first|intro(g:Nat)|intro h));revert g;intro n;rw[j8];refine bm [26] (λz R L'=>∃(k:Nat),k<=3/\z=3-k/\R=[.int .i64 k]/\L'=aK (.slice (some ⟨n,0,none⟩) 3 3) 118 (jA (gs.getD (i:Int).toNat ⟨0⟩).g)::Pt l (dO .ready fn f p A B a)::Pt a (.deferred (some []))::ao m 32 [ay b]::dh b gh gl vs gs c (w.gI c (3*i+k)) (j::M)) 3 ⟨0,U,rfl,rfl,rfl⟩ ?_;rintro z R g1 L1 ⟨k,m7,rfl,rfl,rfl⟩;refine bp [0,12,13,14,24,25,26] rG (λgk=>?_);have n8:(jA (gs.getD (i:Int).toNat ⟨0⟩).g).length=3:=rfl;by_cases m9:k<3
  ·obtain⟨w',S⟩:∃w',w'=w.gI c (3*i+k):=⟨_,rfl⟩;have W:dE kk c w':=by rw[S];exact j0 _ U
   have c9:w'.nodes.length=w.nodes.length:=by rw[S,Be]
   have d7:w.gI c (3*i+(k+1))=w'.once c (w'.lE c i k):=by rw[S];have e1:(3*i+k)/3=i:=U;have e2:(3*i+k)%3=k:=U;show aD.once _ c (aD.lE _ c (((3*i+k)/3:Nat):Int) ((3*i+k)%3))=_;rw[e1,e2];rfl
   rw[<-S];have r:w'.has (i:Int):=⟨U,U⟩;have F:=W.node r;have l8:k=0\/k=1\/k=2:=U;rcases l8 with rfl|rfl|rfl
   ·refine rn ?_;intros;refine cb (L':=bD (gs.getD (i:Int).toNat ⟨0⟩).g c i (w'.node i)::jk b gh gl vs gs c w' i (j::aK (.slice (some ⟨n,0,none⟩) 3 3) 118 (jA (gs.getD (i:Int).toNat ⟨0⟩).g)::Pt l (dO .ready fn f p A B a)::Pt a (.deferred (some []))::ao m 32 [ay b]::M)) ?_ (ar (lh r _) rP);refine rq [] (xs:=[]) (fs:=[ay (gs.getD (i:Int).toNat ⟨0⟩).g]) (vs:=[]) J J call42 rE J (KL (k:=kk) _ c i (w'.node i) _ F U) ?_;rintro _ _ ⟨u,Q,rfl,rfl⟩;obtain⟨d,q⟩:∃d,d=w'.lE c i 0:=⟨_,rfl⟩;have H:d.2=0->d.1.cM:=λh=>by rw[q]at h⊢;exact wG F h
    have y:w.gI c (3*i+(0+1))=w'.once c d:=by rw[d7,q]
    show aM _ _ _ _ _ (cg _ _ (.tuple #[u,.int .i64 (w'.lE c i 0).2])) (bB u (eU (w'.lE c i 0))::_);rw[<-q];by_cases o:d.2=0
    ·refine aM.halt 0 ?_;refine rn ?_;intros;have L:d=(d.1,0):=by rw[<-o]
     have P:eU d=d.1.bu:=by simp only[eU,o,jn]
     rw[P];refine Ex.go ?_;refine bF (L':=Pt l (dO .ready fn f p A B a)::bB u d.1.bu::dh b gh gl vs gs c w' (j::(aK (.slice (some ⟨n,0,none⟩) 3 3) 118 (jA (gs.getD (i:Int).toNat ⟨0⟩).g)::Pt a (.deferred (some []))::ao m 32 [ay b]::M))) ?_ (ar (B:=dh b gh gl vs gs c w' (j::(Pt l (dO .ready fn f p A B a)::bB u d.1.bu::aK (.slice (some ⟨n,0,none⟩) 3 3) 118 (jA (gs.getD (i:Int).toNat ⟨0⟩).g)::Pt a (.deferred (some []))::ao m 32 [ay b]::M))) rP (ar (wJ r _) rP));refine vy (Ex.Dp (fV.at 5 J ?_));refine rn ?_;intros;refine Dy ?_;refine fV.tj J J J J ?_;refine fV.yield (hd:=by rfl) (hx:=by rfl) (hy:=by rfl) d6 hp c8 (c7 w' d.1 u _ W c9 (H o) Q) ?_;rintro C rfl;refine fV.of J (qS (mH (qS (vK (mH (mH (qS (vK (mH Calm.fin))))))))) ?_;refine rn ?_;intros;refine aS ⟨3-(0+1),aK (.slice (some ⟨n,0,none⟩) 3 3) 118 (jA (gs.getD (i:Int).toNat ⟨0⟩).g)::Pt l (dO .ready fn f p A B a)::Pt a (.deferred (some []))::ao m 32 [ay b]::dh b gh gl vs gs c (w.gI c (3*i+(0+1))) (j::M),U,?_,0+1,U,rfl,av (aQ U) rfl,rfl⟩;rw[y,L];exact rP
    ·have I:w'.once c d=w':=by unfold aD.once;rw[an o]
     refine rn ?_;intros;refine aS ⟨3-(0+1),aK (.slice (some ⟨n,0,none⟩) 3 3) 118 (jA (gs.getD (i:Int).toNat ⟨0⟩).g)::Pt l (dO .ready fn f p A B a)::Pt a (.deferred (some []))::ao m 32 [ay b]::dh b gh gl vs gs c (w.gI c (3*i+(0+1))) (j::M),U,?_,0+1,U,rfl,av (aQ U) rfl,rfl⟩;rw[y,I];exact ar (B:=dh b gh gl vs gs c w' (j::aK (.slice (some ⟨n,0,none⟩) 3 3) 118 (jA (gs.getD (i:Int).toNat ⟨0⟩).g)::Pt l (dO .ready fn f p A B a)::Pt a (.deferred (some []))::ao m 32 [ay b]::M)) rP (ar (wJ r _) rP)
   ·refine rn ?_;intros;refine cb (L':=bD (gs.getD (i:Int).toNat ⟨0⟩).g c i (w'.node i)::jk b gh gl vs gs c w' i (j::aK (.slice (some ⟨n,0,none⟩) 3 3) 118 (jA (gs.getD (i:Int).toNat ⟨0⟩).g)::Pt l (dO .ready fn f p A B a)::Pt a (.deferred (some []))::ao m 32 [ay b]::M)) ?_ (ar (lh r _) rP);refine rq [] (xs:=[]) (fs:=[ay (gs.getD (i:Int).toNat ⟨0⟩).g]) (vs:=[]) J J call43 rE J (MG (k:=kk) _ c i (w'.node i) _ F U) ?_;rintro _ _ ⟨u,Q,rfl,rfl⟩;obtain⟨d,q⟩:∃d,d=w'.lE c i 1:=⟨_,rfl⟩;have H:d.2=0->d.1.cM:=λh=>by rw[q]at h⊢;exact pP F U (.inl rfl) h
    have y:w.gI c (3*i+(1+1))=w'.once c d:=by rw[d7,q]
    show aM _ _ _ _ _ (cg _ _ (.tuple #[u,.int .i64 (w'.lE c i 1).2])) (bB u (eU (w'.lE c i 1))::_);rw[<-q];by_cases o:d.2=0
    ·refine aM.halt 0 ?_;refine rn ?_;intros;have L:d=(d.1,0):=by rw[<-o]
     have P:eU d=d.1.bu:=by simp only[eU,o,jn]
     rw[P];refine Ex.go ?_;refine bF (L':=Pt l (dO .ready fn f p A B a)::bB u d.1.bu::dh b gh gl vs gs c w' (j::(aK (.slice (some ⟨n,0,none⟩) 3 3) 118 (jA (gs.getD (i:Int).toNat ⟨0⟩).g)::Pt a (.deferred (some []))::ao m 32 [ay b]::M))) ?_ (ar (B:=dh b gh gl vs gs c w' (j::(Pt l (dO .ready fn f p A B a)::bB u d.1.bu::aK (.slice (some ⟨n,0,none⟩) 3 3) 118 (jA (gs.getD (i:Int).toNat ⟨0⟩).g)::Pt a (.deferred (some []))::ao m 32 [ay b]::M))) rP (ar (wJ r _) rP));refine vy (Ex.Dp (fV.at 5 J ?_));refine rn ?_;intros;refine Dy ?_;refine fV.tj J J J J ?_;refine fV.yield (hd:=by rfl) (hx:=by rfl) (hy:=by rfl) d6 hp c8 (c7 w' d.1 u _ W c9 (H o) Q) ?_;rintro C rfl;refine fV.of J (qS (mH (qS (vK (mH (mH (qS (vK (mH Calm.fin))))))))) ?_;refine rn ?_;intros;refine aS ⟨3-(1+1),aK (.slice (some ⟨n,0,none⟩) 3 3) 118 (jA (gs.getD (i:Int).toNat ⟨0⟩).g)::Pt l (dO .ready fn f p A B a)::Pt a (.deferred (some []))::ao m 32 [ay b]::dh b gh gl vs gs c (w.gI c (3*i+(1+1))) (j::M),U,?_,1+1,U,rfl,av (aQ U) rfl,rfl⟩;rw[y,L];exact rP
    ·have I:w'.once c d=w':=by unfold aD.once;rw[an o]
     refine rn ?_;intros;refine aS ⟨3-(1+1),aK (.slice (some ⟨n,0,none⟩) 3 3) 118 (jA (gs.getD (i:Int).toNat ⟨0⟩).g)::Pt l (dO .ready fn f p A B a)::Pt a (.deferred (some []))::ao m 32 [ay b]::dh b gh gl vs gs c (w.gI c (3*i+(1+1))) (j::M),U,?_,1+1,U,rfl,av (aQ U) rfl,rfl⟩;rw[y,I];exact ar (B:=dh b gh gl vs gs c w' (j::aK (.slice (some ⟨n,0,none⟩) 3 3) 118 (jA (gs.getD (i:Int).toNat ⟨0⟩).g)::Pt l (dO .ready fn f p A B a)::Pt a (.deferred (some []))::ao m 32 [ay b]::M)) rP (ar (wJ r _) rP)
   ·refine rn ?_;intros;refine cb (L':=bD (gs.getD (i:Int).toNat ⟨0⟩).g c i (w'.node i)::jk b gh gl vs gs c w' i (j::aK (.slice (some ⟨n,0,none⟩) 3 3) 118 (jA (gs.getD (i:Int).toNat ⟨0⟩).g)::Pt l (dO .ready fn f p A B a)::Pt a (.deferred (some []))::ao m 32 [ay b]::M)) ?_ (ar (lh r _) rP);refine rq [] (xs:=[]) (fs:=[ay (gs.getD (i:Int).toNat ⟨0⟩).g]) (vs:=[]) J J call44 rE J (Iq (k:=kk) _ c i (w'.node i) _ F U) ?_;rintro _ _ ⟨u,Q,rfl,rfl⟩;obtain⟨d,q⟩:∃d,d=w'.lE c i 2:=⟨_,rfl⟩;have H:d.2=0->d.1.cM:=λh=>by rw[q]at h⊢;exact pP F U (.inr rfl) h
    have y:w.gI c (3*i+(2+1))=w'.once c d:=by rw[d7,q]
    show aM _ _ _ _ _ (cg _ _ (.tuple #[u,.int .i64 (w'.lE c i 2).2])) (bB u (eU (w'.lE c i 2))::_);rw[<-q];by_cases o:d.2=0
    ·refine aM.halt 0 ?_;refine rn ?_;intros;have L:d=(d.1,0):=by rw[<-o]
     have P:eU d=d.1.bu:=by simp only[eU,o,jn]
     rw[P];refine Ex.go ?_;refine bF (L':=Pt l (dO .ready fn f p A B a)::bB u d.1.bu::dh b gh gl vs gs c w' (j::(aK (.slice (some ⟨n,0,none⟩) 3 3) 118 (jA (gs.getD (i:Int).toNat ⟨0⟩).g)::Pt a (.deferred (some []))::ao m 32 [ay b]::M))) ?_ (ar (B:=dh b gh gl vs gs c w' (j::(Pt l (dO .ready fn f p A B a)::bB u d.1.bu::aK (.slice (some ⟨n,0,none⟩) 3 3) 118 (jA (gs.getD (i:Int).toNat ⟨0⟩).g)::Pt a (.deferred (some []))::ao m 32 [ay b]::M))) rP (ar (wJ r _) rP));refine vy (Ex.Dp (fV.at 5 J ?_));refine rn ?_;intros;refine Dy ?_;refine fV.tj J J J J ?_;refine fV.yield (hd:=by rfl) (hx:=by rfl) (hy:=by rfl) d6 hp c8 (c7 w' d.1 u _ W c9 (H o) Q) ?_;rintro C rfl;refine fV.of J (qS (mH (qS (vK (mH (mH (qS (vK (mH Calm.fin))))))))) ?_;refine rn ?_;intros;refine aS ⟨3-(2+1),aK (.slice (some ⟨n,0,none⟩) 3 3) 118 (jA (gs.getD (i:Int).toNat ⟨0⟩).g)::Pt l (dO .ready fn f p A B a)::Pt a (.deferred (some []))::ao m 32 [ay b]::dh b gh gl vs gs c (w.gI c (3*i+(2+1))) (j::M),U,?_,2+1,U,rfl,av (aQ U) rfl,rfl⟩;rw[y,L];exact rP
    ·have I:w'.once c d=w':=by unfold aD.once;rw[an o]
     refine rn ?_;intros;refine aS ⟨3-(2+1),aK (.slice (some ⟨n,0,none⟩) 3 3) 118 (jA (gs.getD (i:Int).toNat ⟨0⟩).g)::Pt l (dO .ready fn f p A B a)::Pt a (.deferred (some []))::ao m 32 [ay b]::dh b gh gl vs gs c (w.gI c (3*i+(2+1))) (j::M),U,?_,2+1,U,rfl,av (aQ U) rfl,rfl⟩;rw[y,I];exact ar (B:=dh b gh gl vs gs c w' (j::aK (.slice (some ⟨n,0,none⟩) 3 3) 118 (jA (gs.getD (i:Int).toNat ⟨0⟩).g)::Pt l (dO .ready fn f p A B a)::Pt a (.deferred (some []))::ao m 32 [ay b]::M)) rP (ar (wJ r _) rP)
  ·obtain rfl:k=3:=U;have e3:3*i+3=3*(i+1):=U;rw[e3];refine rn ?_;intros;refine aS ⟨w.nodes.length-(i+1),Pt l (dO .ready fn f p A B a)::Pt a (.deferred (some []))::ao m 32 [ay b]::dh b gh gl vs gs c (w.gI c (3*(i+1))) (j::M),U,rP,i+1,U,rfl,av (aQ U) rfl,rfl⟩
 ·obtain rfl:i=w.nodes.length:=U;have e:w.gI c (3*w.nodes.length)=w.round c:=rfl;rw[e];exact Lc
end
end
end Go.Proofs.YtogcfijlhpaeeaaGreat
