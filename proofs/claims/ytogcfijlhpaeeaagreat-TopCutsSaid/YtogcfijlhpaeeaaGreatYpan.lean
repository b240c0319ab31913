/- Texts. No condition. -/
import Derived.Test.YtogcfijlhpaeeaaGreatYpam
open Go.RowKit Go.Proofs.Tryz
set_option linter.all false
set_option maxHeartbeats 32000000
namespace Go.Proofs.YtogcfijlhpaeeaaGreat
variable{k:Nat}{r j:Int}{t e:TypeId}{c:aJ}{x y:Operand}{α:Type}
section
set_option maxRecDepth 20000 attribute [local irreducible] Ex aM Fn bI bJ bV fin meet ch aX bZ aP aN aI Rd aK Row ao Sub bk bP bS bN bg bR Hid bY
section
attribute [local irreducible] bG cC aA dS
theorem Vc(g:Nat)(c:aJ)(st:aY)(d:Bool)(dv:Value)(ds:DS)(po:Value)(M:List aa)(b:kY k c st)(f:k<=200)(a:ka st ds):
  Fn prog 131 #[ay g] (gm g c d dv po::cC dv ds::M) λv L'=>∃(gd:Nat) (l:List ej),O1 v/\l.map (·.x)=st.aE/\L'=jI v l::aA (l.map ej.ev)::gm g c d (ay gd) po::bG gd ⟨cO st.aE,false,false,ds.keep⟩::M:=by
 have hd:=b.pw f a;refine fo func131 ntmps131 ?_;refine rn ?_;(repeat(first|intro(g:Nat)|intro h));refine ca [] call129 (Ba g c d dv po ds _) ?_;rintro _ _ ⟨gd,rfl,rfl⟩;refine rn ?_;intros;refine ca [1] call124 (LD gd ds _) ?_;rintro _ _ rfl;refine rn ?_;intros;refine ca [] call126 (Ix gd ⟨ds.b,false,false,ds.keep⟩ _ (by show ds.b.length<=_;omega)) ?_;rintro q _ ⟨o,rfl⟩;refine rn ?_;intros;refine bc [] J call125 J J (Ic q ds.b _ rD o U) ?_;rintro _ _ ⟨l,n,u,e,r,p,rfl,rfl⟩;rw[a.b]at e;obtain⟨i,j⟩:=oR.of b.tail b.aE e;refine rn ?_;intros;refine ca [3] call127 (Kx gd ⟨ds.b,false,false,ds.keep⟩ n _ (by show ds.b.length<=_;omega)) ?_;rintro _ _ rfl;have m:(⟨ds.b,false,false,ds.keep⟩:DS).trim n=⟨cO st.aE,false,false,ds.keep⟩:=by unfold DS.trim;rw[an ⟨U,by show(n:Int)<=(ds.b.length:Int);omega⟩];show(⟨ds.b.take (n:Int).toNat,_,_,_⟩:DS)=_;rw[dc,a.b,j,jL]
 rw[m];refine rn ?_;intros;refine fr ?_;exact⟨_,rP,gd,l,p,i,rfl⟩
theorem Fc(gh:Nat)(c:aJ)(st:aY)(M:List aa)(b:kY k c st)(q:k<=200):Fn prog 63 #[ay gh] (bL gh c st::M) λv L'=>v=.int .i64 (st.start c).2/\L'=bL gh c (st.start c).1::M:=by
 refine bL.fn (λm dv ds po f=>?_) (λm dv ds gp f=>?_)
 case refine_2=>
  have e:st.start c=(st,19):=by unfold aY.start;rw[an m]
  rw[e];refine fo func63 ntmps63 ?_;refine rn ?_;(repeat(first|intro(g:Nat)|intro h));refine fr ?_;exact⟨_,sq m f M,rfl,rfl⟩
 have hd:=b.pw q f;have d7:=b.size;have d6:=Gp b.aE;have Q:(⟨List.replicate (min (max c.n 0) 5).toNat aj.zero,List.replicate (min (max c.n 0) 5).toNat Sf.none⟩:aR)=aR.zero c:=rfl;refine fo func63 ntmps63 ?_;refine rn ?_;(repeat(first|intro(g:Nat)|intro h));refine ca [] call130 (Y0 c _) ?_;rw[Q];rintro _ _ ⟨gp,rfl,rfl⟩;refine rn ?_;(repeat(first|intro(g:Nat)|intro h));refine cb (L':=gm gh c false dv (ay gp)::cC dv ds::dS gp c.w (aR.zero c)::M) ?_ rP;refine ca [] call131 (Vc (k:=k) gh c st false dv ds (ay gp) _ b q f) ?_;rintro u _ ⟨gd,l,ou,t,rfl⟩;have P:l.length=st.aE.length:=by rw[<-t,bC]
 refine rn ?_;(repeat(first|intro(g:Nat)|intro h));refine bF (L':=dS gp c.w (aR.zero c)::gm gh c false (ay gd) (ay gp)::jI u l::aA (l.map ej.ev)::bG gd ⟨cO st.aE,false,false,ds.keep⟩::M) ?_ rP;refine bm [23] (λz vs L'=>∃(j:Nat),j<=l.length/\z=l.length-j/\vs=[.int .i64 j]/\L'=dS gp c.w (cU c (st.aE.take j))::gm gh c false (ay gd) (ay gp)::jI u l::aA (l.map ej.ev)::bG gd ⟨cO st.aE,false,false,ds.keep⟩::M) l.length ⟨0,U,rfl,rfl,rfl⟩ ?_;rintro z vs V S ⟨j,hj,rfl,rfl,rfl⟩;refine bp [0,21,22,23] rG (λW=>?_);by_cases a:j<l.length
 ·have n:j<st.aE.length:=U;have C:st.aE[j]'n=(l[j]'a).x:=by simp[<-t]
  have r:cU c (st.aE.take (j+1))=iz c (cU c (st.aE.take j)) (l[j]'a).x:=by rw[da n,sE,C]
  have w:(l[j]'a).x.aW:=by rw[<-C];exact b.aE _ (bT n)
  have c8:=w.m;have c9:(l[j]'a).v.oneCell'=true:=(l[j]'a).o;have A:=YY b.cm q b.post j;have R:∀L,aI (aA (l.map ej.ev)::L) (l[j]'a).v (l[j]'a).x.l:=λL=>(gr (L:=aL (l[j]'a).v (l[j]'a).x.l::aA ((l.map ej.ev).eraseIdx j)::L) 0 rfl).sub (qA (As:=l.map ej.ev) (i:=j) L (by simp[a];rfl));generalize cU c (st.aE.take j)=p at*
  by_cases s:(l[j]'a).x.kind=5
  ·have d:iz c p (l[j]'a).x=(p.push c.w (l[j]'a).x.r (l[j]'a).x.l).2.2:=by unfold iz;rw[an s,Fb]
   refine rn ?_;(repeat(first|intro(g:Nat)|intro h));revert g;intro H;refine fh [1] rE ?_;refine bU 9 (_::_::_::_::_::M) rfl rQ rF ?_;refine mn ?_;(repeat(first|intro(g:Nat)|intro h));refine ma [] call132 (Im gp c.w p (l[j]'a).x.r (l[j]'a).v (l[j]'a).x.l _ A ((R []).sub (dt 3 rfl (eI _))) U (λy hy=>(w.l y hy).I.1)) ?_;rintro _ _ ⟨rfl,rfl⟩;refine bn ?_;refine br rF ?_;refine mn ?_;(repeat(first|intro(g:Nat)|intro h));refine rn ?_;(repeat(first|intro(g:Nat)|intro h));refine aS ⟨l.length-(j+1),dS gp c.w (cU c (st.aE.take (j+1)))::gm gh c false (ay gd) (ay gp)::jI u l::aA (l.map ej.ev)::bG gd ⟨cO st.aE,false,false,ds.keep⟩::M,U,?_,j+1,U,rfl,av (aQ U) rfl,rfl⟩;rw[r,d];exact rP
  ·by_cases F:(l[j]'a).x.kind=6
   ·have d:iz c p (l[j]'a).x=(p.bK (l[j]'a).x.r (l[j]'a).x.c).2:=by unfold iz;rw[ai s,an F]
    refine rn ?_;(repeat(first|intro(g:Nat)|intro h));revert g;intro H;refine fh [1] rE ?_;refine bU 9 (_::_::_::_::_::M) rfl rQ rF ?_;refine mn ?_;intros;refine ma [] call133 (L5 gp c.w p (l[j]'a).x.r (l[j]'a).x.c _ A) ?_;rintro _ _ ⟨rfl,rfl⟩;refine mw ?_;intros;refine rn ?_;intros;refine aS ⟨l.length-(j+1),dS gp c.w (cU c (st.aE.take (j+1)))::gm gh c false (ay gd) (ay gp)::jI u l::aA (l.map ej.ev)::bG gd ⟨cO st.aE,false,false,ds.keep⟩::M,U,?_,j+1,U,rfl,av (aQ U) rfl,rfl⟩;rw[r,d];exact rP
   ·have d:iz c p (l[j]'a).x=p:=by unfold iz;rw[ai s,ai F]
    refine rn ?_;intros;refine aS ⟨l.length-(j+1),dS gp c.w (cU c (st.aE.take (j+1)))::gm gh c false (ay gd) (ay gp)::jI u l::aA (l.map ej.ev)::bG gd ⟨cO st.aE,false,false,ds.keep⟩::M,U,?_,j+1,U,rfl,av (aQ U) rfl,rfl⟩;rw[r,d];exact rP
 ·obtain rfl:j=l.length:=U;rw[P,dI];refine rn ?_;intros;refine fr ?_;have e:st.start c=({st with up:=true,tail:=[],bE:=false,post:=cU c st.aE},0):=by unfold aY.start;rw[ai (by rw[m];simp)]
  rw[e];exact⟨_,ar (bL.wj (st:={st with up:=true,tail:=[],bE:=false,post:=cU c st.aE}) (gd:=gd) (gp:=gp) (ds:=⟨cO st.aE,false,false,ds.keep⟩) rfl ⟨by simp,λ_=>rfl,rfl,(λh=>by cases h)⟩ M) rP,rfl,rfl⟩
def aY.fresh(c:aJ):aY:=⟨false,[],[],false,0,aR.zero c⟩
theorem aY.AZ(a:c.aW):kY 0 c (aY.fresh c):=by
 have b:=a.n;refine⟨a,by simp[aY.fresh],rfl,bj _,⟨?_,?_,λx hx=>?_,λx hx=>?_⟩,(λh=>by cases h),by simp[aY.fresh]⟩
 ·show((List.replicate (min (max c.n 0) 5).toNat Sf.none).length:Int)=c.n;rw[ju];omega
 ·show(List.replicate (min (max c.n 0) 5).toNat aj.zero).length=(List.replicate (min (max c.n 0) 5).toNat Sf.none).length;rw[ju,ju]
 ·have:=vc hx;subst this;refine⟨bj _,bj _,?_,by simp[Sf.none]⟩;have:=a.w;show((0-0:Nat):Int)<=c.w;omega
 ·have:=vc hx;subst this;intro i hi;rw[nT];omega
theorem Ve(c:aJ)(M:List aa)(a:c.aW):Fn prog 55 #[.agg (ab.cells c).toArray] M
  λv L'=>∃gh,v=.tuple #[ay gh,.int .i64 0]/\L'=bL gh c ((aY.fresh c).start c).1::M:=by
 refine fo func55 ntmps55 ?_;refine rn ?_;(repeat(first|intro(g:Nat)|intro h));refine ca [] call119 (EC c _) ?_;rintro _ _ ⟨rfl,rfl⟩;have b:gS c=true:=by have d:=a.n;have e:=a.w;have f:=a.q;have i:=a.h;have j:=a.l;have l:=a.p;unfold gS gW;simp[*]
 rw[b];refine rn ?_;(repeat(first|intro(g:Nat)|intro h));revert g;intro gh;refine cb (L':=bL gh c (aY.fresh c)::M) ?_ (ar (bL.tc (st:=aY.fresh c) (dv:=oA) (ds:=DS.zero) (po:=oA) rfl ⟨rfl,(λh=>by cases h),rfl,(λh=>by cases h)⟩ M) (ar (bl _ (cC.LS M)) rP));refine ca [] call63 (Fc (k:=0) gh c (aY.fresh c) M (aY.AZ a) U) ?_;rintro _ _ ⟨rfl,rfl⟩;refine rn ?_;intros;refine fr ?_;exact⟨_,rP,gh,rfl,rfl⟩
end
section
theorem uc(l:List α)(i:Nat)(d:α):l.getD i d∈l\/l.getD i d=d:=by
 by_cases h:i<l.length
 ·left;rw[show l.getD i d=l[i]'h by simp[cu,h]];exact bT h
 ·right;have a:l.length<=i:=U;simp[cu,pG a]
theorem Dc{p:aR}(h:lC k c p)(m:c.aW)(r:Int)(b:aj):(p.dP r b).1.length<=20/\∀e∈(p.dP r b).1,e.aW:=by
 have s:=m.w;have q:=m.n;have n:∀i,((eT (b.get i) ((p.sf.getD i Sf.none).all.drop (p.sf.getD i Sf.none).cut)).length:Int)<=c.w/\∀e∈eT (b.get i) ((p.sf.getD i Sf.none).all.drop (p.sf.getD i Sf.none).cut),e.aW:=λi=>by
  rcases uc p.sf i Sf.none with f|f
  ·have d:=h.s _ f;have l:(eT (b.get i) ((p.sf.getD i Sf.none).all.drop (p.sf.getD i Sf.none).cut)).length<=((p.sf.getD i Sf.none).all.drop (p.sf.getD i Sf.none).cut).length:=by unfold eT;exact jJ ..
   rw[ew]at l;refine⟨by have:=d.2.2.1;omega,λe a=>d.2.2.2 e ?_⟩;unfold eT at a;exact py (fW.1 a).1
  ·rw[f];refine⟨by show((eT _ []).length:Int)<=c.w;simp[eT];omega,λe a=>by simp[Sf.none,eT]at a⟩
 have o:∀j,((p.mV r b j).length:Int)<=j*c.w/\∀e∈p.mV r b j,e.aW:=by
  intro j
  induction j with
  |zero=>exact⟨by simp[aR.mV],by simp[aR.mV]⟩
  |succ j ih=>
   have d:=n j;have g:((j+1:Nat):Int)*c.w=j*c.w+c.w:=by rw[Int.natCast_add,Int.add_mul];simp
   unfold aR.mV;split
   ·refine⟨by rw[bo,g];omega,λe a=>?_⟩;rcases ct.1 a with a|a
    ·exact ih.2 e a
    ·exact d.2 e a
   ·exact⟨by rw[g];omega,ih.2⟩
 unfold aR.dP;split
 ·exact⟨by simp,by simp⟩
 ·have d:=o p.sf.length;refine⟨?_,d.2⟩;have l:(p.sf.length:Int)*c.w<=5*4:=Int.mul_le_mul (by have:=h.n;omega) U U U;have:=d.1;simp only;omega
theorem CN{p:aR}(h:lC k c p)(most r:Int)(l:List Ev):0<=(p.dC most r l).1/\(p.dC most r l).1<=50*k+l.length/\((p.dC most r l).2.1≠0->(p.dC most r l).2.2=p):=by
 have b:(p.sf.getD r.toNat Sf.none).all.length<=50*k:=by
  rcases uc p.sf r.toNat Sf.none with a|a
  ·exact(h.s _ a).2.1
  ·rw[a];exact eM _
 have d:((p.sf.getD r.toNat Sf.none).kC most l).2.length<=l.length:=by
  unfold Sf.kC vM;split
  ·exact eM _
  ·split
   ·exact eM _
   ·exact jJ ..
 unfold aR.dC;split
 ·exact⟨eH _,by simp only;omega,λ_=>rfl⟩
 ·split
  ·exact⟨eH _,by simp only;omega,λ_=>rfl⟩
  ·refine⟨by simp only;omega,by simp only[bo];omega,λh=>absurd rfl h⟩
theorem vU{u:Int}(a:0<=r/\r<5)(b:0<=u/\u<=1048576):(⟨2,r,u,aj.zero,[]⟩:aF).cM:=by
 refine⟨by show(1:Int)<=2/\(2:Int)<=5;omega,a,b,λh=>absurd rfl h,λ_=>rfl,λ_=>rfl,λi hi=>?_,by simp,λh=>?_,by simp,by simp⟩
 ·show 0<=aj.zero.get i/\aj.zero.get i<=1048576;rw[nT];omega
 ·have:(2:Int)=1:=h;omega
theorem Gh{l:List Ev}(c:0<=r/\r<5)(a:l.length<=20)(b:∀e∈l,e.aW):(⟨4,r,0,aj.zero,l⟩:aF).cM:=by
 refine⟨by show(1:Int)<=4/\(4:Int)<=5;omega,c,by show(0:Int)<=0/\(0:Int)<=1048576;omega,λ_=>rfl,λ_=>rfl,λh=>absurd (.inr rfl) h,λi hi=>?_,a,λh=>?_,b,λh=>?_⟩
 ·show 0<=aj.zero.get i/\aj.zero.get i<=1048576;rw[nT];omega
 ·have:(4:Int)=1:=h;omega
 ·have:(4:Int)=1:=h;omega
attribute [local irreducible] bG cC aA dS
theorem Ga(f:aF)(v0:Value)(M:List aa)(a:f.cM)(c:aI M v0 f.l)(d:O1 v0):Fn prog 198 #[.agg (bH f v0).toArray] M
  λv L'=>∃u,O1 u/\v=.tuple #[.int .i64 f.r,u,.int .i64 0]/\L'=bB u f.bu::M:=by
 have g:=a.m;refine fo func198 ntmps198 ?_;refine rn ?_;intros;refine ca [] call109 (zy f v0 _ (c.sub rB) d U (λy hy=>by have:=(a.l y hy).lens;omega)) ?_;rintro _ _ (⟨b,_,_⟩|⟨_,u,e,rfl,rfl⟩)
 ·exact absurd a b
 refine rn ?_;intros;refine fr ?_;exact⟨_,rP,u,e,rfl,rfl⟩
theorem Yn(gh gp:Nat)(c:aJ)(st:aY)(f:aF)(v0:Value)(dv:Value)(ds:DS)(M:List aa)(a:kY k c st)(o:k<=200)(d:st.up=true)(l:ka st ds)(p:f.cM)(z:O1 v0)(y:f.r<c.n):
  Fn prog 137 #[ay gh,.agg (bH f v0).toArray] (pN gh gp c st dv ds M)
  λv L'=>∃u,O1 u/\v=.tuple #[.int .i64 (st.dP f.r f.c).1,u,.int .i64 (st.dP f.r f.c).2.2]/\L'=bB u (eU (st.dP f.r f.c).2)::bL gh c st::M:=by
 have b:=a.post;rw[(a.up d).2]at b;have q:=a.yx o d;obtain⟨m,n⟩:=Dc b a.cm f.r f.c;have j:=p.r;have x:=b.n;have i:(st.post.dP f.r f.c).2=0:=by unfold aR.dP;rw[ai (λh=>h ⟨j.1,U⟩)]
 have e:st.dP f.r f.c=(f.r,(⟨4,f.r,0,aj.zero,(st.post.dP f.r f.c).1⟩,0)):=by unfold aY.dP;rw[ai (by rw[i];simp)]
 rw[e];refine fo func137 ntmps137 ?_;refine rn ?_;(repeat(first|intro(g:Nat)|intro h));revert g;intro w;refine fh [3] rE ?_;refine tR ?_;intros;refine ma [] call199 (U5 gp c.w st.post f.r f.c _ q) ?_;rintro _ _ ⟨u,r,rfl,rfl⟩;rw[i];refine mw ?_;intros
 (repeat' (first|(refine m1 ?_;intros)|(refine cG J J J (λh=>?_) (λh=>?_)<;>try(exfalso;omega))))
 refine rn ?_;intros;refine bc [] J call198 J J (Ga ⟨4,f.r,0,aj.zero,(st.post.dP f.r f.c).1⟩ u _ (Gh j m n) rD r) ?_;rintro _ _ ⟨t,s,rfl,rfl⟩;refine rn ?_;intros;refine fr ?_;exact⟨_,bl _ (ar (sq d l M) rP),t,s,rfl,rfl⟩
theorem WM(p:aR)(r:Int)(a:0<=r/\r<5):(eF p.iX).get r.toNat=p.iX r.toNat:=KP _ _ U
theorem O6(gh gp:Nat)(c:aJ)(st:aY)(f:aF)(v0:Value)(dv:Value)(ds:DS)(M:List aa)(m:kY k c st)(hk:k<=198)(e:st.up=true)(q:ka st ds)(j:f.cM)(d9:f.kind=1)(V:aI M v0 f.l)(o0:O1 v0)(j0:f.r<c.n):
  Fn prog 136 #[ay gh,.agg (bH f v0).toArray] (pN gh gp c st dv ds M)
  λv L'=>∃u,O1 u/\v=.tuple #[.int .i64 (st.push c f.r f.l).2.1,u,.int .i64 (st.push c f.r f.l).2.2.2]/\L'=bB u (eU (st.push c f.r f.l).2.2)::bL gh c (st.push c f.r f.l).1::M:=by
 have S:=m.post;rw[(m.up e).2]at S;have R:=m.yx U e;have i:=j.r;have e9:=j.m;have c7:st.post.site=⟨eF st.post.qV,eF st.post.iX,st.post.told.getD 0 aj.zero,st.post.told.getD 1 aj.zero,st.post.told.getD 2 aj.zero,st.post.told.getD 3 aj.zero,st.post.told.getD 4 aj.zero⟩:=rfl;have F:=WM st.post f.r i;refine fo func136 ntmps136 ?_;refine rn ?_;(repeat(first|intro(g:Nat)|intro h));revert g;intro C;refine fh [3] rE ?_;refine oE ?_;intros;refine ma [] call92 (AS gp c.w st.post _ R) ?_;rintro _ _ ⟨rfl,rfl⟩;rw[c7];generalize eF st.post.qV=z0 at*
 generalize eF st.post.iX=o at*
 generalize st.post.told.getD 0 aj.zero=z2;generalize st.post.told.getD 1 aj.zero=z3;generalize st.post.told.getD 2 aj.zero=z4;generalize st.post.told.getD 3 aj.zero=z5;generalize st.post.told.getD 4 aj.zero=z6;refine mw ?_;intros
 (repeat' (first|(refine m1 ?_;intros)|(refine cG J J J (λh=>?_) (λh=>?_)<;>try(exfalso;omega))))
 refine fZ J J J (Cu J J J J J J rE) ?_
 (repeat' (first|(refine m1 ?_;intros)|(refine cG J J J (λh=>?_) (λh=>?_)<;>try(exfalso;omega))))
 refine fZ J J J (pU J J J J J i.1 i.2) ?_
 (repeat' (first|(refine m1 ?_;intros)|(refine cG J J J (λh=>?_) (λh=>?_)<;>try(exfalso;omega))))
 have H:(⟨o.a,o.b,o.c,o.d,o.e⟩:aj).get f.r.toNat=st.post.iX f.r.toNat:=F;rw[H];clear c7 F H;refine rn ?_;intros;refine bU 13 (_::_::_::M) rfl rQ rF ?_;refine mn ?_;intros;refine ma [] call132 (Im gp c.w st.post f.r v0 f.l _ R (V.sub rP) U (λy hy=>(j.l y hy).I.1)) ?_;rintro _ _ ⟨rfl,rfl⟩;rw[Fb];have x:=CN S c.w f.r f.l;have Q:∀n b a,st.post.dC c.w f.r f.l=(n,b,a)->st.push c f.r f.l=if b≠0 then(st,-1,(aF.zero,b))else if n=st.post.iX f.r.toNat then({st with post:=a},f.r,(⟨2,f.r,n,aj.zero,[]⟩,0))else
   if(st.write (bw 5 f.r f.l)).2≠0 then((st.write (bw 5 f.r f.l)).1,-1,(aF.zero,18))else({(st.write (bw 5 f.r f.l)).1 with post:=a},f.r,(⟨2,f.r,n,aj.zero,[]⟩,0)):=λn b a h=>by
  unfold aY.push;rw[h]
 obtain⟨⟨n,b,a⟩,P⟩:∃p,st.post.dC c.w f.r f.l=p:=⟨_,rfl⟩;rw[Q n b a P];rw[P]at x⊢
 clear Q;simp only at x;refine mw ?_;intros
 (repeat' (first|(refine m1 ?_;intros)|(refine cG J J J (λh=>?_) (λh=>?_)<;>try(exfalso;omega))))
 by_cases r:b=0
 case neg=>
  rw[an r];obtain rfl:=x.2.2 r;refine rn ?_;intros;refine fr ?_;exact⟨_,ar (gX _) (ar (sq e q M) rP),.slice none 0 0,rfl,rfl,by unfold eU;rw[ai r]⟩
 subst r;rw[ai (by simp)];by_cases L:n=st.post.iX f.r.toNat
 ·rw[an L];refine rn ?_;intros;refine ca [] call198 (Ga ⟨2,f.r,n,aj.zero,[]⟩ (.slice none 0 0) _ (vU i U) (mC _) rfl) ?_;rintro _ _ ⟨A,z,rfl,rfl⟩;refine rn ?_;intros;refine fr ?_;exact⟨_,bl _ (ar (sq (st:={st with post:=a}) e (q.mem rfl rfl rfl rfl rfl) M) rP),A,z,rfl,rfl⟩
 ·rw[ai L];have W:=pb (k:=5) (l:=f.l) (.inr (.inr rfl)) i U j.l;have hb:=wz _ W;have hd:=m.pw U q;have e8:(bw 5 f.r f.l).l.length=f.l.length:=rfl;obtain⟨t,d2⟩:=q.write e (m.up e).1 (bw 5 f.r f.l);obtain⟨s,w2⟩:=st.mq (bw 5 f.r f.l);refine rn ?_;intros;refine bF (L':=gm gh c true dv (ay gp)::cC dv ds::dS gp c.w a::ao C 192 (bH f v0)::M) ?_ rP;refine bU 9 [ao C 192 (bH f v0)] rfl rQ (gC (dt 3 rfl (eI _))) ?_;refine mn ?_;intros;refine ma [] call197 (NU gh c true dv (ay gp) ds (bw 5 f.r f.l) v0 _ (V.sub rP) o0 U (λy hy=>by have:=(j.l y hy).lens;omega) W U) ?_;rintro _ _ ⟨gd,rfl,rfl⟩;rw[d2];refine bn ?_;refine br (gC (dt 3 rfl (eI _))) ?_;refine mn ?_;intros;rcases st.tq (bw 5 f.r f.l)with d|d
  ·have s:=s d;rw[ai (by rw[d];simp),d,s];rw[s]at t;have w:(true&&decide ((0:Int)=0))=true:=rfl;rw[w];refine rn ?_;intros;refine ca [] call198 (Ga ⟨2,f.r,n,aj.zero,[]⟩ (.slice none 0 0) _ (vU i U) (mC _) rfl) ?_;rintro _ _ ⟨A,z,rfl,rfl⟩;refine rn ?_;intros;refine fr ?_;exact⟨_,bl _ (ar (bL.wj (st:={st with aE:=st.aE++[bw 5 f.r f.l],post:=a}) e (t.mem rfl rfl rfl rfl rfl) M) rP),A,z,rfl,rfl⟩
  ·rw[an (by rw[d];simp),d];have w:(true&&decide ((18:Int)=0))=false:=rfl;rw[w];refine rn ?_;intros;refine fr ?_;exact⟨_,ar (gX _) (ar (bL.tv (w2 (by rw[d];simp)) t M) rP),.slice none 0 0,rfl,rfl,rfl⟩
end
end
section
section
variable{P:Program}{f:Nat->Value}{L:List aa}{d:Nat}{ty:TypeId}{pos:String}{af:Array Edge}{gd:Option (Nat×Bool)}
theorem HA{k:IntKind}{c0 c1 c2 c3 c4:aj}(hx:aH f x=.agg (ab.cells c0++ab.cells c1++ab.cells c2++ab.cells c3++ab.cells c4).toArray)(hy:aH f y=.int k j)(g:P.underlying t=some (.array 5 e))(b:cR P e=some true)(c:P.cellsOf e=5)(a:0<=j)(l:j<5):
  aP P ⟨some d,.index t x y,ty,pos,af,gd⟩ f L (.agg (ab.cells ([c0,c1,c2,c3,c4].getD j.toNat aj.zero)).toArray):=λF w h=>by
 obtain⟨i,rfl⟩:=jF a;have hi:i=0\/i=1\/i=2\/i=3\/i=4:=U;rcases hi with rfl|rfl|rfl|rfl|rfl<;>
 ·simp[execOp,hx,hy,Instr.index,cX g,asIntOf,part,sM w b,gQ w c U];rfl
end
theorem TG{B:Nat}{p:aR}(h:p.Ok B)(r:Int)(c:aj):(p.bK r c).2.Ok B:=by have a:=HX p r c;have d:=Fh p r c;have f:=Jm (p:=p) (λx hx=>(h.s x hx).1) r c;refine⟨by rw[<-a.1];exact h.n,by rw[<-a.1,<-a.2.1];exact h.t,λx hx=>⟨f x hx,?_⟩⟩;have b:x.all∈(p.bK r c).2.eK:=rj hx;rw[d]at b;obtain⟨y,hy,e⟩:=fA.1 b;rw[<-e];exact(h.s y hy).2
theorem KZ(told:List aj)(a:0<=r/\r<5):[told.getD 0 aj.zero,told.getD 1 aj.zero,told.getD 2 aj.zero,told.getD 3 aj.zero,told.getD 4 aj.zero].getD r.toNat aj.zero=told.getD r.toNat aj.zero:=by have hi:r.toNat=0\/r.toNat=1\/r.toNat=2\/r.toNat=3\/r.toNat=4:=U;rcases hi with h|h|h|h|h<;>rw[h]<;>rfl
theorem EP{c:aj}(b:0<=r/\r<5)(a:∀i,i<5->0<=c.get i/\c.get i<=1048576):(⟨6,r,0,c,[]⟩:aF).aW:=by refine⟨by show(1:Int)<=6/\(6:Int)<=6;omega,b,by show(0:Int)<=0/\(0:Int)<=1048576;omega,by simp,a,λ_=>rfl,λh=>absurd rfl h,λ_=>rfl,by simp,λh=>?_⟩;have:(6:Int)=1:=h;omega
set_option maxRecDepth 20000 attribute [local irreducible] Ex aM Fn bI bJ bV fin meet ch aX bZ aP aN aI Rd aK Row ao Sub bk bP bS bN bg bR Hid bY
attribute [local irreducible] bG cC aA dS
theorem Ry(gh gp:Nat)(c:aJ)(st:aY)(f:aF)(v0:Value)(dv:Value)(ds:DS)(M:List aa)(i:kY k c st)(hk:k<=198)(d:st.up=true)(o:ka st ds)(y:f.cM)(o0:O1 v0)(j3:f.r<c.n):
  Fn prog 138 #[ay gh,.agg (bH f v0).toArray] (pN gh gp c st dv ds M)
  λv L'=>v=.int .i64 (st.bK f.r f.c).2/\L'=bL gh c (st.bK f.r f.c).1::M:=by
 have z:=i.post;rw[(i.up d).2]at z;have q:=i.yx U d;have a:=y.r;have j1:=z.n;have x:(st.post.bK f.r f.c).1=0:=by unfold aR.bK;rw[ai (λh=>h ⟨a.1,U⟩)]
 have d6:=TG q f.r f.c;have w:st.bK f.r f.c=if(st.post.bK f.r f.c).2.told.getD f.r.toNat aj.zero=st.post.told.getD f.r.toNat aj.zero then({st with post:=(st.post.bK f.r f.c).2},0)else
   if(st.write ⟨6,f.r,0,f.c,[]⟩).2≠0 then((st.write ⟨6,f.r,0,f.c,[]⟩).1,18)else({(st.write ⟨6,f.r,0,f.c,[]⟩).1 with post:=(st.post.bK f.r f.c).2},0):=by
  unfold aY.bK;rw[ai (by rw[x];simp)]
 rw[w];clear w;have t:=KZ st.post.told a;have u:=KZ (st.post.bK f.r f.c).2.told a;have C:st.post.site=⟨eF st.post.qV,eF st.post.iX,st.post.told.getD 0 aj.zero,st.post.told.getD 1 aj.zero,st.post.told.getD 2 aj.zero,st.post.told.getD 3 aj.zero,st.post.told.getD 4 aj.zero⟩:=rfl;have F:(st.post.bK f.r f.c).2.site=⟨eF (st.post.bK f.r f.c).2.qV,eF (st.post.bK f.r f.c).2.iX,(st.post.bK f.r f.c).2.told.getD 0 aj.zero,(st.post.bK f.r f.c).2.told.getD 1 aj.zero,(st.post.bK f.r f.c).2.told.getD 2 aj.zero,(st.post.bK f.r f.c).2.told.getD 3 aj.zero,(st.post.bK f.r f.c).2.told.getD 4 aj.zero⟩:=rfl;generalize st.post.told.getD 0 aj.zero=H at*
 generalize st.post.told.getD 1 aj.zero=I at*
 generalize st.post.told.getD 2 aj.zero=L at*
 generalize st.post.told.getD 3 aj.zero=P at*
 generalize st.post.told.getD 4 aj.zero=Q at*
 generalize eF st.post.qV=z0 at*
 generalize eF st.post.iX=z1 at*
 generalize (st.post.bK f.r f.c).2.told.getD 0 aj.zero=R at*
 generalize (st.post.bK f.r f.c).2.told.getD 1 aj.zero=S at*
 generalize (st.post.bK f.r f.c).2.told.getD 2 aj.zero=V at*
 generalize (st.post.bK f.r f.c).2.told.getD 3 aj.zero=W at*
 generalize (st.post.bK f.r f.c).2.told.getD 4 aj.zero=b4 at*
 generalize eF (st.post.bK f.r f.c).2.qV=y0 at*
 generalize eF (st.post.bK f.r f.c).2.iX=y1 at*
 refine fo func138 ntmps138 ?_;refine rn ?_;(repeat(first|intro(g:Nat)|intro h));revert g;intro s;refine fh [3] rE ?_;refine ji ?_;(repeat(first|intro(g:Nat)|intro h));refine ma [] call92 (AS gp c.w st.post _ q) ?_;rintro _ _ ⟨rfl,rfl⟩;rw[C];refine bn ?_;refine br rF ?_;refine mn ?_;(repeat(first|intro(g:Nat)|intro h))
 (repeat' (first|(refine m1 ?_;(repeat(first|intro(g:Nat)|intro h)))|(refine cG J J J (λh=>?_) (λh=>?_)<;>try(exfalso;omega))))
 refine fZ J J J (Cu J J J J J J rE) ?_
 (repeat' (first|(refine m1 ?_;(repeat(first|intro(g:Nat)|intro h)))|(refine cG J J J (λh=>?_) (λh=>?_)<;>try(exfalso;omega))))
 refine fZ J J J (HA (c0:=H) (c1:=I) (c2:=L) (c3:=P) (c4:=Q) J J J J J a.1 a.2) ?_
 (repeat' (first|(refine m1 ?_;(repeat(first|intro(g:Nat)|intro h)))|(refine cG J J J (λh=>?_) (λh=>?_)<;>try(exfalso;omega))))
 rw[t];obtain⟨r,d7⟩:∃r,r=st.post.told.getD f.r.toNat aj.zero:=⟨_,rfl⟩;rw[<-d7];refine rn ?_;(repeat(first|intro(g:Nat)|intro h));revert g;intro g5;refine fh [1] rE ?_;refine bU 9 (_::_::_::_::M) rfl rQ rF ?_;refine mn ?_;intros;refine ma [] call133 (L5 gp c.w st.post f.r f.c _ q) ?_;rintro _ _ ⟨rfl,rfl⟩;rw[x];refine mw ?_;intros
 (repeat' (first|(refine m1 ?_;intros)|(refine cG J J J (λh=>?_) (λh=>?_)<;>try(exfalso;omega))))
 refine rn ?_;intros;refine sc ?_;intros;refine ma [] call92 (AS gp c.w (st.post.bK f.r f.c).2 _ d6) ?_;rintro _ _ ⟨rfl,rfl⟩;rw[F];refine mw ?_;intros
 (repeat' (first|(refine m1 ?_;intros)|(refine cG J J J (λh=>?_) (λh=>?_)<;>try(exfalso;omega))))
 refine fZ J J J (Cu J J J J J J rE) ?_
 (repeat' (first|(refine m1 ?_;intros)|(refine cG J J J (λh=>?_) (λh=>?_)<;>try(exfalso;omega))))
 refine fZ J J J (HA (c0:=R) (c1:=S) (c2:=V) (c3:=W) (c4:=b4) J J J J J a.1 a.2) ?_
 (repeat' (first|(refine m1 ?_;intros)|(refine cG J J J (λh=>?_) (λh=>?_)<;>try(exfalso;omega))))
 rw[u];obtain⟨e,c9⟩:∃e,e=(st.post.bK f.r f.c).2.told.getD f.r.toNat aj.zero:=⟨_,rfl⟩;rw[<-c9];clear t u C F;by_cases j:e=r
 ·rw[an j];subst j
  (repeat' (first|(refine m1 ?_;intros)|(refine cG J J J (λh=>?_) (λh=>?_)<;>try(exfalso;omega))))
  rw[bf (rfl:e=e)];refine rn ?_;intros;refine fr ?_;exact⟨_,ar (sq (st:={st with post:=(st.post.bK f.r f.c).2}) d (o.mem rfl rfl rfl rfl rfl) M) rP,rfl,rfl⟩
 ·rw[ai j];have A:=EP (c:=f.c) a y.c;have hb:=wz _ A;have hd:=i.pw U o;have j0:(⟨6,f.r,0,f.c,[]⟩:aF).l.length=0:=rfl;obtain⟨n,d2⟩:=o.write d (i.up d).1 ⟨6,f.r,0,f.c,[]⟩;obtain⟨m,w2⟩:=st.mq ⟨6,f.r,0,f.c,[]⟩
  (repeat' (first|(refine m1 ?_;intros)|(refine cG J J J (λh=>?_) (λh=>?_)<;>try(exfalso;omega))))
  rw[bd j];refine rn ?_;intros;refine bF (L':=gm gh c true dv (ay gp)::cC dv ds::dS gp c.w (st.post.bK f.r f.c).2::ao s 192 (bH f v0)::M) ?_ rP;refine bU 9 [ao s 192 (bH f v0)] rfl rQ (gC (dt 3 rfl (eI _))) ?_;refine mn ?_;intros;refine ma [] call197 (NU gh c true dv (ay gp) ds ⟨6,f.r,0,f.c,[]⟩ (.slice none 0 0) _ (mC _) rfl (by simp) (by simp) A U) ?_;rintro _ _ ⟨gd,rfl,rfl⟩;rw[d2];refine bn ?_;refine br (gC (dt 3 rfl (eI _))) ?_;rcases st.tq ⟨6,f.r,0,f.c,[]⟩with b|b
  ·have m:=m b;rw[ai (by rw[b];simp),b,m];rw[m]at n;have p:(true&&decide ((0:Int)=0))=true:=rfl;rw[p];refine mn ?_;intros;refine rn ?_;intros;refine fr ?_;exact⟨_,ar (bL.wj (st:={st with aE:=st.aE++[⟨6,f.r,0,f.c,[]⟩],post:=(st.post.bK f.r f.c).2}) d (n.mem rfl rfl rfl rfl rfl) M) rP,rfl,rfl⟩
  ·rw[an (by rw[b];simp),b];have p:(true&&decide ((18:Int)=0))=false:=rfl;rw[p];refine mn ?_;intros;refine rn ?_;intros;refine fr ?_;exact⟨_,ar (bL.tv (w2 (by rw[b];simp)) n M) rP,rfl,rfl⟩
def lV(q:Int×(aF×Int)):List UInt8:=if q.1<0 then[]else eU q.2
theorem XT(st:aY)(c:aJ)(r:Int)(l:List Ev):((st.push c r l).2.1=r/\(st.push c r l).2.2.2=0)\/((st.push c r l).2.1=-1/\(st.push c r l).2.2.2≠0):=by
 unfold aY.push;split
 ·rename_i h;exact .inr ⟨rfl,h⟩
 ·split
  ·exact .inl ⟨rfl,rfl⟩
  ·split
   ·exact .inr ⟨rfl,by simp⟩
   ·exact .inl ⟨rfl,rfl⟩
theorem Om(st:aY)(c:aJ)(r:Int)(d:0<=r)(l:List Ev):eU (st.push c r l).2.2=lV (st.push c r l).2:=by
 unfold lV;rcases XT st c r l with⟨b,a⟩|⟨b,a⟩
 ·rw[ai U]
 ·rw[an U];unfold eU;rw[ai a]
theorem Wh(st:aY)(r:Int)(k:aj)(a:0<=r):eU (st.dP r k).2=lV (st.dP r k):=by
 unfold lV aY.dP;split
 ·rename_i h;rw[an (by simp)];unfold eU;rw[ai h]
 ·rw[ai (by simp only;omega)]
theorem J8(gh:Nat)(c:aJ)(st:aY)(v0:Value)(b:List UInt8)(M:List aa)(l:kY k c st)(s:k<=198)(z:aI M v0 b)(A:O1 v0)(C:b.length<=1000000):
  Fn prog 66 #[ay gh,v0] (bL gh c st::M)
  λv L'=>∃u,O1 u/\v=.tuple #[.int .i64 (st.take c (cV b)).2.1,u,.int .i64 (st.take c (cV b)).2.2.2]/\L'=bB u (lV (st.take c (cV b)).2)::bL gh c (st.take c (cV b)).1::M:=by
 have d:=λh=>(xv (b:=b) h).1;obtain⟨⟨f,i⟩,r⟩:∃f,cV b=f:=⟨_,rfl⟩;rw[r]at d⊢
 simp only at d;refine bL.fn (λa dv ds po g=>?_) (λa dv ds gp g=>?_)
 ·have e:st.take c (f,i)=(st,-1,(aF.zero,18)):=by unfold aY.take;rw[an a]
  rw[e];refine fo func66 ntmps66 ?_;refine rn ?_;intros;refine fr ?_;exact⟨_,ar (gX _) (ar (bL.tc a g M) rP),.slice none 0 0,rfl,rfl,rfl⟩
 ·refine fo func66 ntmps66 ?_;refine rn ?_;intros;refine ca [] call135 (LG v0 b _ (z.sub rP) A U) ?_;rw[r];rintro _ _ (⟨t,⟨y,rfl⟩,rfl⟩|⟨q,u,m,rfl,rfl⟩)
  ·simp only at t;have e:st.take c (f,i)=(st,-1,(aF.zero,i)):=by unfold aY.take;rw[ai (by rw[a];simp),an t]
   rw[e];refine rn ?_;intros;refine fr ?_;exact⟨_,ar (gX _) (ar (sq a g M) rP),.slice none 0 0,rfl,rfl,rfl⟩
  ·simp only at q⊢
   subst q;have d:=d rfl;by_cases p:c.n<=f.r
   ·have e:st.take c (f,0)=(st,-1,(aF.zero,23)):=by unfold aY.take;rw[ai (by rw[a];simp),ai (by simp),an p]
    rw[e];refine rn ?_;intros;refine ln ?_;intros;refine rn ?_;intros;refine fr ?_;exact⟨_,ar (gX _) (ar (sq a g M) rP),.slice none 0 0,rfl,rfl,rfl⟩
   ·have e:st.take c (f,0)=if f.kind=1 then st.push c f.r f.l else if f.kind=3 then(st,st.dP f.r f.c)else
      if f.kind=5 then((st.bK f.r f.c).1,-1,(aF.zero,(st.bK f.r f.c).2))else(st,-1,(aF.zero,23)):=by
     unfold aY.take;rw[ai (by rw[a];simp),ai (by simp),ai p]
    rw[e];by_cases j:f.kind=1
    ·rw[an j];refine rn ?_;intros;refine ln ?_;intros;refine rn ?_;intros;refine cb (L':=pN gh gp c st dv ds (aL u f.l::M)) ?_ rP;refine ca [] call136 (O6 (k:=k) gh gp c st f u dv ds (aL u f.l::M) l s a g d j (gr 0 rfl) m U) ?_;rintro _ _ ⟨o,n,rfl,rfl⟩;rw[Om st c f.r d.r.1 f.l];refine rn ?_;intros;refine fr ?_;exact⟨_,rP,o,n,rfl,rfl⟩
    ·rw[ai j];by_cases w:f.kind=3
     ·rw[an w];refine rn ?_;intros;refine ln ?_;intros;refine rn ?_;intros;refine cb (L':=pN gh gp c st dv ds M) ?_ rP;refine ca [] call137 (Yn (k:=k) gh gp c st f u dv ds M l U a g d m U) ?_;rintro _ _ ⟨o,n,rfl,rfl⟩;rw[Wh st f.r f.c d.r.1];refine rn ?_;intros;refine fr ?_;exact⟨_,rP,o,n,rfl,rfl⟩
     ·rw[ai w];by_cases x:f.kind=5
      ·rw[an x];refine rn ?_;intros;refine ln ?_;intros;refine rn ?_;intros;refine cb (L':=pN gh gp c st dv ds M) ?_ rP;refine ca [] call138 (Ry (k:=k) gh gp c st f u dv ds M l s a g d m U) ?_;rintro _ _ ⟨rfl,rfl⟩;refine rn ?_;intros;refine fr ?_;exact⟨_,ar (gX _) rP,.slice none 0 0,rfl,rfl,rfl⟩
      ·rw[ai x];refine rn ?_;intros;refine ln ?_;intros;refine rn ?_;intros;refine fr ?_;exact⟨_,ar (gX _) (ar (sq a g M) rP),.slice none 0 0,rfl,rfl,rfl⟩
end
end Go.Proofs.YtogcfijlhpaeeaaGreat
