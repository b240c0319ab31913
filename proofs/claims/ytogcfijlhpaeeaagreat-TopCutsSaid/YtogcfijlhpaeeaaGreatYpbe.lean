/- Texts. No condition. -/
import Derived.Sort.Walk0
import Derived.Test.YtogcfijlhpaeeaaGreatYpay
import Derived.Test.YtogcfijlhpaeeaaGreatYpbb
open Go.RowKit Go.Proofs.Tryz
set_option linter.all false
set_option maxHeartbeats 32000000
namespace Go.Proofs.YtogcfijlhpaeeaaGreat
variable{i:Nat}{xt yt ty:TypeId}{c:aJ}{x y:Operand}{L:List aa}{f:Nat->Value}{P:Program}{A:List Ev}{af:Array Edge}{gd:Option (Nat×Bool)}
section
def sQ(b:Bool)(x e:Ev):Bool:=if b=true then lx x e else ee x e
set_option maxRecDepth 20000 attribute [local irreducible] Ex aM Fn bI bJ bV fin meet ch aX bZ aP aN aI Rd aK Row ao Sub bk bP bS bN bg bR Hid bY
section
theorem J5(v0:Value)(l:List Ev)(e:Ev)(k:Int)(b:Bool)(M:List aa)(w:aI M v0 l)(u:l.length<=1000000):Fn prog 214 #[v0,.agg (ab.cells e).toArray,.int .i64 k,.bool b,.bool b] M λv L'=>v=.bool (fU k (sQ b) l e)/\L'=M:=by
 refine fo func214 ntmps214 ?_;refine rn ?_;(repeat(first|intro(g:Nat)|intro h));revert g;intro p;refine bm [11] (λz vs L'=>∃i:Nat,i<=l.length/\z=l.length-i/\fU k (sQ b) (l.take i) e=false/\vs=[.int .i64 i]/\L'=ao p 80 (ab.cells e)::M) l.length ⟨0,U,rfl,rfl,rfl,rfl⟩ ?_;rintro z vs s r ⟨i,hi,rfl,m,rfl,rfl⟩;refine bp [0,2,3,4,6,11] rG (λt=>?_);by_cases a:i<l.length
 ·have f:fU k (sQ b) (l.take (i+1)) e=(decide ((l[i]'a).ed.kind=k)&&sQ b (l[i]'a) e&&e.dq (l[i]'a)):=by
   have o:=m;unfold fU at o⊢
   rw[da a,Gd,o];simp
  have j:fU k (sQ b) (l.take (i+1)) e=true->fU k (sQ b) l e=true:=λh=>by
   unfold fU at h⊢
   obtain⟨y,hy,q⟩:=eR.1 h;exact eR.2 ⟨y,mM hy,q⟩
  clear m;refine rn ?_;intros;refine ca [] call215 (HU e (l[i]'a) _) ?_;rintro _ _ ⟨rfl,rfl⟩;rw[show(l[i]'a).c.has e.r e.n=e.dq (l[i]'a)from rfl];cases c1:e.dq (l[i]'a)
  ·clear j;have d:fU k (sQ b) (l.take (i+1)) e=false:=by rw[f];simp[c1]
   refine rn ?_;intros;exact aS ⟨l.length-(i+1),_,U,rB,i+1,U,rfl,d,av (aQ U) rfl,rfl⟩
  by_cases c2:(l[i]'a).ed.kind=k
  case neg=>
   clear j;have d:fU k (sQ b) (l.take (i+1)) e=false:=by rw[f];simp[c2]
   refine rn ?_;intros;exact aS ⟨l.length-(i+1),_,U,rB,i+1,U,rfl,d,av (aQ U) rfl,rfl⟩
  by_cases c3:(l[i]'a).ed.key=e.ed.key
  case neg=>
   clear j;have d:fU k (sQ b) (l.take (i+1)) e=false:=by rw[f];simp[sQ,lx,pz,ee,c3]
   refine rn ?_;intros;exact aS ⟨l.length-(i+1),_,U,rB,i+1,U,rfl,d,av (aQ U) rfl,rfl⟩
  cases b
  ·rw[j (by rw[f];simp[c1,c2,sQ,ee,c3])];exact bh
  by_cases c4:(l[i]'a).ed.label=e.ed.label
  case neg=>
   clear j;have d:fU k (sQ true) (l.take (i+1)) e=false:=by rw[f];simp[sQ,lx,pz,ee,c4]
   refine rn ?_;intros;exact aS ⟨l.length-(i+1),_,U,rB,i+1,U,rfl,d,av (aQ U) rfl,rfl⟩
  by_cases n:(l[i]'a).ed.value=e.ed.value
  case neg=>
   clear j;have d:fU k (sQ true) (l.take (i+1)) e=false:=by rw[f];simp[sQ,lx,pz,ee,n]
   refine rn ?_;intros;exact aS ⟨l.length-(i+1),_,U,rB,i+1,U,rfl,d,av (aQ U) rfl,rfl⟩
  rw[j (by rw[f];simp[c1,c2,sQ,lx,pz,ee,c3,c4,n])];exact bh
 ·obtain rfl:i=l.length:=U;rw[dI]at m;rw[m];exact bh
theorem Xy:sQ false=ee:=by funext x e;rfl
theorem Yb:sQ true=lx:=by funext x e;rfl
def nB(l:List Ev)(e:Ev):Bool:=decide (e.ed.kind=1)&&!fU 2 ee l e
theorem Kg(v0:Value)(l:List Ev)(e:Ev)(M:List aa)(b:aI M v0 l)(a:l.length<=1000000):Fn prog 144 #[v0,.agg (ab.cells e).toArray] M λv L'=>v=.bool (nB l e)/\L'=M:=by
 refine fo func144 ntmps144 ?_;unfold nB;by_cases h:e.ed.kind=1
 ·rw[bf h,pK];refine rn ?_;intros;refine bc [] J call214 J J (J5 v0 l e 2 false _ rD a) ?_;rintro _ _ ⟨rfl,rfl⟩;rw[Xy];exact bh
 ·rw[bd h,sb];exact bh
theorem CJ{l:List Ev}{e:Ev}:e∈fi l↔e∈l/\nB l e=true:=fW
theorem Zs{l:List Ev}{e:Ev}:oP 1 ee (fi l) e=l.any λa=>nB l a&&ee a e&&a.dq e:=by unfold oP fi;rw[List.any_filter];congr 1;funext a;unfold nB;cases decide (a.ed.kind=1)<;>simp[Bool.and_assoc]
theorem Nn(v0:Value)(l:List Ev)(e:Ev)(M:List aa)(I:aI M v0 l)(x:l.length<=1000000):Fn prog 146 #[v0,.agg (ab.cells e).toArray] M λv L'=>v=.bool (iF l (fi l) e)/\L'=M:=by
 refine fo func146 ntmps146 ?_;refine pW 2 [0,3] (λvs L'=>∃d,(e.ed.kind=4->fU 5 lx l e=false)/\vs=[v0,.pointer (some ⟨d,0,none⟩)]/\L'=ao d 80 (ab.cells e)::M) ?_ ?_
 rotate_left
 ·intro m;by_cases h:e.ed.kind=4
  ·refine rn ?_;intros;refine bc [] J call214 J J (J5 v0 l e 5 true _ rD x) ?_;rintro _ _ ⟨rfl,rfl⟩;rw[Yb];cases ha:fU 5 lx l e
   ·refine rn ?_;intros;exact m _ _ ⟨_,rB,_,λ_=>ha,av rfl (av rfl rfl),rfl⟩
   ·have f:iF l (fi l) e=false:=by unfold iF;rw[ai U,an h,ha];simp
    rw[f];exact bh
  ·refine rn ?_;intros;exact m _ _ ⟨_,rB,_,λk=>absurd k h,av rfl (av rfl rfl),rfl⟩
 rintro vs u L' ⟨d,w,rfl,rfl⟩;by_cases o:e.ed.kind=3\/e.ed.kind=4
 case neg=>
  have A:¬e.ed.kind=3:=λh=>o (.inl h);have C:¬e.ed.kind=4:=λh=>o (.inr h);have f:iF l (fi l) e=false:=by unfold iF;rw[ai A,ai C]
  rw[f];exact bh
 have f:iF l (fi l) e=l.any λa=>nB l a&&ee a e&&a.dq e:=by
  rw[<-Zs];unfold iF;rcases o with h|h
  ·rw[an h]
  ·rw[ai U,an h,w h];simp
 rw[f];clear f w;refine pW 1 [0,3] (λvs L'=>vs=[v0,.pointer (some ⟨d,0,none⟩)]/\L'=ao d 80 (ab.cells e)::M) ?_ ?_
 rotate_left
 ·intro m;rcases o with h|h
  all_goals
   refine rn ?_;intros;exact m _ _ ⟨_,rB,av rfl (av rfl rfl),rfl⟩
 rintro vs u L' ⟨rfl,rfl⟩;obtain⟨p,t⟩:∃p:Ev->Bool,p=λa=>nB l a&&ee a e&&a.dq e:=⟨_,rfl⟩;rw[<-t];refine rn ?_;intros;refine bm [5] (λz vs L'=>∃i:Nat,i<=l.length/\z=l.length-i/\(l.take i).any p=false/\vs=[.int .i64 i]/\L'=ao d 80 (ab.cells e)::M) l.length ⟨0,U,rfl,rfl,rfl,rfl⟩ ?_;rintro z vs H F ⟨i,hi,rfl,q,rfl,rfl⟩;refine bp [0,3,5] rG (λu=>?_);by_cases c:i<l.length
 ·have g:(l.take (i+1)).any p=p (l[i]'c):=by rw[da c,Gd,q];simp
  have j:p (l[i]'c)=true->l.any p=true:=λh=>eR.2 ⟨_,bT c,h⟩;clear q;have y:p (l[i]'c)=(nB l (l[i]'c)&&ee (l[i]'c) e&&(l[i]'c).dq e):=by rw[t]
  rw[y]at g j;clear t y;refine rn ?_;intros;refine bc [] J call144 J J (Kg v0 l (l[i]'c) _ rD x) ?_;rintro _ _ ⟨rfl,rfl⟩;generalize nB l (l[i]'c)=b at g j⊢
  cases b
  ·clear j;refine rn ?_;intros;refine nP ?_;intros;refine rn ?_;intros;exact aS ⟨l.length-(i+1),_,U,rB,i+1,U,rfl,g,av (aQ U) rfl,rfl⟩
  by_cases c3:(l[i]'c).ed.key=e.ed.key
  case neg=>
   clear j;have s:(l.take (i+1)).any p=false:=by rw[g];simp[ee,c3]
   refine rn ?_;intros;refine nP ?_;intros;refine rn ?_;intros;exact aS ⟨l.length-(i+1),_,U,rB,i+1,U,rfl,s,av (aQ U) rfl,rfl⟩
  refine rn ?_;intros;refine nP ?_;intros;refine ma [] call215 (HU (l[i]'c) e _) ?_;rintro _ _ ⟨rfl,rfl⟩;rw[show e.c.has (l[i]'c).r (l[i]'c).n=(l[i]'c).dq e from rfl];cases c1:(l[i]'c).dq e
  ·have s:(l.take (i+1)).any p=false:=by rw[g,c1];simp
   refine mw ?_;intros;refine rn ?_;intros;exact aS ⟨l.length-(i+1),_,U,rB,i+1,U,rfl,s,av (aQ U) rfl,rfl⟩
  ·rw[j (by simp[ee,c3,c1])];refine mw ?_;intros;exact bh
 ·obtain rfl:i=l.length:=U;rw[dI]at q;rw[q];exact bh
end
end
section
theorem CF{d:Nat}{pos:String}{a b:List UInt8}(hx:aH f x=.string (S a))(hy:aH f y=.string (S b)):
  aP P ⟨some d,.binOp .lss xt x y yt,ty,pos,af,gd⟩ f L (.bool (decide (a<b))):=
 mc hx hy rfl λw=>by simp[binOp,Op.stringOp,bytesLess_eq,FV]
theorem JL{ks:List (List UInt8)}{s:List UInt8}(b:ks.Pairwise (·<·))(e:∀j (a:j<ks.length),j<i->ks[j]'a<s)(f:∀h:i<ks.length,¬ks[i]'h<s/\ks[i]'h≠s):
  (ks.take i++s::ks.drop i).Pairwise (·<·)/\∀v,v∈ks.take i++s::ks.drop i↔v∈ks\/v=s:=by
 have d:∀x∈ks.take i,x<s:=λx hx=>by obtain⟨j,a,rfl⟩:=zV.1 hx;rw[dy]at a;rw[List.getElem_take];exact e j U U
 have hd:∀y∈ks.drop i,s<y:=λy hy=>by
  obtain⟨j,a,rfl⟩:=zV.1 hy;rw[ew]at a;rw[yi];obtain⟨k,l⟩:=f U;have c:s<ks[i]'U:=by
   rcases List.le_iff_lt_or_eq.1 (show s<=ks[i]'U from k)with h|h
   ·exact h
   ·exact absurd h.symm l
  by_cases g:j=0
  ·subst g;exact c
  ·exact List.lt_trans c (Cp.1 b i (i+j) U U U)
 refine⟨tJ.2 ⟨b.sublist (List.take_sublist ..),km.2 ⟨hd,b.sublist (List.drop_sublist ..)⟩,λx hx y hy=>?_⟩,λv=>?_⟩
 ·rcases gA.1 hy with rfl|hy
  ·exact d x hx
  ·exact List.lt_trans (d x hx) (hd y hy)
 ·rw[ct,gA];constructor
  ·rintro(h|h|h)
   ·exact .inl (mM h)
   ·exact .inr h
   ·exact .inl (py h)
  ·rintro(h|h)
   ·rw[<-mi i ks]at h;rcases ct.1 h with h|h
    ·exact .inl h
    ·exact .inr (.inr h)
   ·exact .inr (.inl h)
structure WQ(xs:List bQ)(s:List UInt8)(ys:List bQ):Prop where
 o:(ys.map (·.l)).Pairwise (·<·)
 m:∀v,v∈ys.map (·.l)↔v∈xs.map (·.l)\/v=s
 n:ys.length<=xs.length+1
theorem WQ.new{xs:List bQ}{s:List UInt8}(a:((xs.map (·.l)).take i++s::(xs.map (·.l)).drop i).Pairwise (·<·)/\∀v,v∈(xs.map (·.l)).take i++s::(xs.map (·.l)).drop i↔v∈xs.map (·.l)\/v=s)(hi:i<=xs.length):WQ xs s (xs.take i++[⟨s⟩]++xs.drop i):=by
 have e:(xs.take i++[(⟨s⟩:bQ)]++xs.drop i).map (λt:bQ=>t.l)=(xs.map (·.l)).take i++s::(xs.map (·.l)).drop i:=by simp[AE,GN]
 exact⟨by rw[e];exact a.1,by rw[e];exact a.2,by simp;omega⟩
set_option maxRecDepth 20000 attribute [local irreducible] Ex aM Fn bI bJ bV fin meet ch aX bZ aP aN aI Rd aK Row ao Sub bk bP bS bN bg bR Hid bY
section
attribute [local irreducible] aA
theorem Cw(v0:Value)(xs:List bQ)(s:List UInt8)(M c:List aa)(p:aI c v0 xs)(t:Sub c M)(w:O1 v0)(A:xs.length<=1000000)(g:(xs.map (·.l)).Pairwise (·<·)):
  Fn prog 145 #[v0,.string (S s)] M λu L'=>∃(As:List aa) (q:List bQ),O1 u/\aI (aA As::c) u q/\WQ xs s q/\L'=aA As::M:=by
 have C:aI M v0 xs:=p.sub t;refine fo func145 ntmps145 ?_;refine rn ?_;(repeat(first|intro(v:Value)|intro(o:O1 _)|intro h));refine bm [5] (λz vs L'=>∃i:Nat,i<=xs.length/\z=xs.length-i/\(∀j (b:j<xs.length),j<i->(xs[j]'b).l<s)/\vs=[.int .i64 i]/\L'=M) xs.length ⟨0,U,rfl,λj _ h=>by omega,rfl,rfl⟩ ?_;rintro z vs x m ⟨i,hi,rfl,a,rfl,rfl⟩;refine bp [0,1,5] rG (λy=>?_);by_cases f:i<xs.length
 ·by_cases d:(xs[i]'f).l<s
  ·have r:∀j (b:j<xs.length),j<i+1->(xs[j]'b).l<s:=λj b e=>by
    by_cases h:j=i
    ·subst h;exact d
    ·exact a j b U
   clear a;refine rn ?_;(repeat(first|intro(v:Value)|intro(o:O1 _)|intro h));refine cH J J J (CF J J) ?_;rw[bf d];refine rn ?_;(repeat(first|intro(v:Value)|intro(o:O1 _)|intro h));exact aS ⟨xs.length-(i+1),_,U,rB,i+1,U,rfl,r,av (aQ U) rfl,rfl⟩
  ·by_cases n:(xs[i]'f).l=s
   ·clear a;refine rn ?_;(repeat(first|intro(v:Value)|intro(o:O1 _)|intro h));refine cH J J J (CF J J) ?_;rw[bd d];refine rn ?_;(repeat(first|intro(v:Value)|intro(o:O1 _)|intro h));refine fr ?_;refine⟨_,ly _,[],xs,w,p.sub (iC _ (bW _)),⟨g,λv=>⟨.inl,λh=>?_⟩,U⟩,rfl⟩;rcases h with h|rfl
    ·exact h
    ·exact fA.2 ⟨_,bT f,n⟩
   ·have k:=JL (s:=s) (i:=i) g (λj b e=>by rw[gT];exact a j _ e) (λh=>by rw[gT];exact⟨d,n⟩);clear a;refine rn ?_;(repeat(first|intro(v:Value)|intro(o:O1 _)|intro h));refine cH J J J (CF J J) ?_;rw[bd d];refine rn ?_;(repeat(first|intro(v:Value)|intro(o:O1 _)|intro h));rw[dc];refine fr ?_;exact⟨_,ar (mr [aK v 9 (xs.take i++[⟨s⟩]++xs.drop i)] m) rB,[aK v 9 (xs.take i++[⟨s⟩]++xs.drop i)],_,o,(gr 0 rfl).sub (ky [_] c),WQ.new k hi,rfl⟩
 ·have k:=JL (s:=s) (i:=i) g (λj b e=>by rw[gT];exact a j _ e) (λh=>by rw[bC]at h;omega);clear a;refine rn ?_;(repeat(first|intro(v:Value)|intro(o:O1 _)|intro h));rw[dc];refine fr ?_;exact⟨_,ar (mr [aK v 9 (xs.take i++[⟨s⟩]++xs.drop i)] m) rB,[aK v 9 (xs.take i++[⟨s⟩]++xs.drop i)],_,o,(gr 0 rfl).sub (ky [_] c),WQ.new k hi,rfl⟩
theorem Tg(a b:fS)(M:List aa):Fn prog 216 #[.agg (ab.cells a).toArray,.agg (ab.cells b).toArray] M λv L'=>∃t:Bool,v=.bool t/\L'=M:=by
 refine fo func216 ntmps216 ?_;by_cases c:a.h<b.h
 ·exact yo
 by_cases d:a.h=b.h
 ·by_cases e:a.r<b.r
  ·exact yo
  ·exact yo
 ·exact yo
theorem Ml(v0:Value)(l:List fS)(M:List aa)(o:aI M v0 l)(n:l.length<=1000000):Fn prog 147 #[v0] M λv L'=>∃k:Int,-1<=k/\k<l.length/\v=.int .i64 k/\L'=M:=by
 refine fo func147 ntmps147 ?_;refine rn ?_;intros;refine bm [3] (λz vs L'=>∃i:Nat,i<=l.length/\z=l.length-i/\vs=[.int .i64 i]/\L'=M) l.length ⟨0,U,rfl,rfl,rfl⟩ ?_;rintro z vs g a ⟨i,hi,rfl,rfl,rfl⟩;refine bp [0,3] rG (λc=>?_);by_cases e:i<l.length
 ·refine rn ?_;intros;refine bm [4,5] (λz vs L'=>∃(j:Nat) (b:Bool),j<=l.length/\z=l.length-j/\vs=[.bool b,.int .i64 j]/\L'=a) l.length ⟨0,true,U,rfl,rfl,rfl⟩ ?_;rintro z vs h f ⟨j,b,m,rfl,rfl,rfl⟩;refine bp [0,3,4,5] rG (λc=>?_);by_cases d:j<l.length
  ·refine rn ?_;intros;refine oE ?_;intros;refine ma [] call216 (Tg (l[i]'e) (l[j]'d) _) ?_;rintro _ _ ⟨t,rfl,rfl⟩;refine mw ?_;intros;cases b
   ·refine rn ?_;intros;exact aS ⟨l.length-(j+1),_,U,rB,j+1,false,U,rfl,av rfl (av (aQ U) rfl),rfl⟩
   ·refine rn ?_;intros;exact aS ⟨l.length-(j+1),_,U,rB,j+1,_,U,rfl,av rfl (av (aQ U) rfl),rfl⟩
  ·cases b
   ·refine rn ?_;intros;exact aS ⟨l.length-(i+1),_,U,rB,i+1,U,rfl,av (aQ U) rfl,rfl⟩
   ·refine rn ?_;intros;refine fr ?_;exact⟨_,rB,i,U,U,rfl,rfl⟩
 ·refine rn ?_;intros;refine fr ?_;exact⟨_,rB,-1,U,U,rfl,rfl⟩
end
end
section
def aap(w:aD)(r:Int):aj:=cr (replay (w.node r).aE).1
def aaq(c:aJ)(w:aD)(s:Nat):Int:=((cU c w.aO.aE).sf.getD s Sf.none).all.length
structure RmI(c:aJ)(w:aD):Prop where
 told:∀r:Nat,w.has (r:Int)->∀i,i<5->((cU c w.aO.aE).told.getD r aj.zero).get i<=(aap w r).get i
 aan:∀x∈w.fl,x.2.kind=5->w.has x.2.r->∀i,i<5->x.2.c.get i<=(aap w x.2.r).get i
 held:∀r:Int,w.has r->(w.node r).up=true->∀e∈(w.node r).held,e.n<=aaq c w e.r.toNat
 evF:∀x∈w.fl,x.2.kind=4->∀e∈x.2.l,e.n<=aaq c w e.r.toNat
end
section
def jC(e:Ev):Bool:=decide (e.ed.kind=1)
structure yH(m:fz):Prop where
 nd:(m.map (·.1)).Nodup
 ev:∀p∈m,∀e∈p.2,e.ed.key=p.1/\(e.ed.kind=1\/e.ed.kind=3\/e.ed.kind=4)
theorem Ln{k:List UInt8}:∀{m:fz},k∉m.map (·.1)->cp k m=[]
 |[],_=>rfl
 |p::m,h=>by unfold cp;rw[ai (λe=>h (by rw[e];simp))];exact Ln (λa=>h (by simp only[kq];exact eu _ a))
theorem sU{k:List UInt8}:∀{m:fz} {e:Ev},e∈cp k m->∃p∈m,p.1=k/\e∈p.2
 |[],e,h=>by cases h
 |p::m,e,h=>by
  unfold cp at h;split at h
  ·rename_i c;exact⟨p,by simp,c.symm,h⟩
  ·obtain⟨q,d,a,b⟩:=sU h;exact⟨q,eu _ d,a,b⟩
theorem AW(k:List UInt8)(f:List Ev->List Ev)(q:List UInt8):∀m:fz,(m.map (·.1)).Nodup->cp q (fK k f m)=if q=k then f (cp k m)else cp q m
 |[],_=>by
  unfold fK;show cp q (if f []=[]then[]else[(k,f [])])=if q=k then f []else[]
  split
  ·rename_i h;rw[h];simp[cp]
  ·unfold cp;rfl
 |p::m,hd=>by
  rw[kq,sd]at hd;unfold fK;by_cases b:k=p.1
  ·rw[an b];have d:cp k (p::m)=p.2:=by unfold cp;rw[an b]
   rw[d];split
   ·rename_i j;by_cases a:q=k
    ·rw[an a,j,a,b];exact Ln hd.1
    ·rw[ai a]
     conv=>rhs;unfold cp
     rw[ai (λe=>a (by rw[e,b]))]
   ·by_cases a:q=k
    ·rw[an a];unfold cp;rw[an a]
    ·rw[ai a];unfold cp;rw[ai a,ai (λe=>a (by rw[e,b]))]
  ·rw[ai b];have n:=AW k f q m hd.2;have d:cp k (p::m)=cp k m:=by conv=>lhs;unfold cp;rw[ai b]
   rw[d];by_cases c:q=p.1
   ·have l:¬q=k:=λe=>b (by rw[<-e,c]);unfold cp;rw[an c,ai l,an c]
   ·have g:cp q (p::fK k f m)=cp q (fK k f m):=by conv=>lhs;unfold cp;rw[ai c]
    have i:cp q (p::m)=cp q m:=by conv=>lhs;unfold cp;rw[ai c]
    rw[g,i,n]
theorem Hd(k:List UInt8)(f:List Ev->List Ev):∀m:fz,(m.map (·.1)).Nodup->((fK k f m).map (·.1)).Nodup
 |[],_=>by unfold fK;split<;>simp
 |p::m,hd=>by
  have g:=hd;rw[kq,sd]at hd;unfold fK;by_cases a:k=p.1
  ·rw[an a];split
   ·exact hd.2
   ·rw[kq,sd];exact⟨by show k∉_;rw[a];exact hd.1,hd.2⟩
  ·rw[ai a,kq,sd];refine⟨λc=>?_,Hd k f m hd.2⟩;obtain⟨q,d,b⟩:=fA.1 c;rcases FT k f m q d with h|⟨x,hx,e⟩
   ·exact a (by rw[<-h,b])
   ·exact hd.1 (fA.2 ⟨x,hx,by rw[e,b]⟩)
theorem JO(k:List UInt8)(f:List Ev->List Ev):∀(m:fz) (p:List UInt8×List Ev),p∈fK k f m->p∈m\/p=(k,f (cp k m))
 |[],p,h=>by
  unfold fK at h;split at h
  ·cases h
  ·simp at h;exact .inr h
 |q::m,p,h=>by
  unfold fK at h;split at h
  ·rename_i b;have a:cp k (q::m)=q.2:=by unfold cp;rw[an b]
   rw[a];split at h
   ·exact .inl (eu _ h)
   ·rcases gA.1 h with h|h
    ·exact .inr h
    ·exact .inl (eu _ h)
  ·rename_i b;have a:cp k (q::m)=cp k m:=by conv=>lhs;unfold cp;rw[ai b]
   rw[a];rcases gA.1 h with h|h
   ·exact .inl (by rw[h];simp)
   ·rcases JO k f m p h with h|h
    ·exact .inl (eu _ h)
    ·exact .inr h
theorem EY{l:List Ev}{e y:Ev}(h:y∈ga l e):y∈l\/(y=e/\e.ed.kind≠2/\e.ed.kind≠5):=by
 unfold ga at h;split at h
 ·rename_i a;rcases ct.1 h with h|h
  ·exact .inl h
  ·simp at h;exact .inr ⟨h,U,U⟩
 split at h
 ·exact .inl (fW.1 (fW.1 h).1).1
 split at h
 ·split at h
  ·rcases ct.1 h with h|h
   ·exact .inl (fW.1 h).1
   ·simp at h;exact .inr ⟨h,U,U⟩
  ·exact .inl h
 split at h
 ·exact .inl (fW.1 h).1
 split at h
 ·rcases ct.1 h with h|h
  ·exact .inl (fW.1 h).1
  ·simp at h;exact .inr ⟨h,U,U⟩
 ·exact .inl h
theorem yH.apply{m:fz}(h:yH m){e:Ev}(i:1<=e.ed.kind/\e.ed.kind<=5):yH (ik m e):=by
 refine⟨Hd _ _ _ h.nd,λp a y hy=>?_⟩;rcases JO _ _ _ _ a with a|rfl
 ·exact h.ev p a y hy
 ·rcases EY hy with hy|⟨rfl,f,g⟩
  ·obtain⟨q,b,c,d⟩:=sU hy;have:=h.ev q b y d;rw[c]at this;exact this
  ·exact⟨rfl,U⟩
theorem vr(a:List Ev)(h:∀e∈a,1<=e.ed.kind/\e.ed.kind<=5):yH (cf a):=by
 induction a using oK with
 |h0=>exact⟨EU,λp b=>by cases b⟩
 |hs l e ih=>rw[xZ];exact(ih λx hx=>h x (by simp[hx])).apply (h e (by simp))
def qF(S:List Ev)(e:Ev):List Ev:=if e.ed.kind=1 then S++[e]else if e.ed.kind=2 then S.filter (λa=>!(decide (a.ed.key=e.ed.key)&&a.dq e))else S
def sv(a:List Ev):List Ev:=a.foldl qF []
theorem yk(a:List Ev)(e:Ev):sv (a++[e])=qF (sv a) e:=by unfold sv;rw[js];rfl
theorem Vn{l:List Ev}{e:Ev}(i:1<=e.ed.kind/\e.ed.kind<=5):(ga l e).filter jC=if e.ed.kind=1 then l.filter jC++[e]else if e.ed.kind=2 then(l.filter jC).filter (λa=>!a.dq e)else l.filter jC:=by
 have d:∀(k:Int) (q:Ev->Bool),k≠1->(jy l e k q).filter jC=l.filter jC:=λk q h=>by
  unfold jy;rw[sg];refine tX λa _=>?_;unfold jC;by_cases b:a.ed.kind=1
  ·have:¬a.ed.kind=k:=U;simp[b,this,h.symm]
  ·simp[b]
 unfold ga;by_cases b:e.ed.kind=1
 ·rw[an b,an b,lD];have:jC e=true:=by unfold jC;simp[b]
  simp[this]
 rw[ai b,ai b];have g:jC e=false:=by unfold jC;simp[b]
 by_cases c:e.ed.kind=2
 ·rw[an c,an c];unfold tY jy;rw[sg,sg,sg];refine tX λa _=>?_;unfold jC pd;by_cases f:a.ed.kind=1
  ·simp[f]
  ·simp[f]
 rw[ai c,ai c];split
 ·split
  ·rw[lD,d 3 _ U];simp[g]
  ·rfl
 split
 ·rw[d 4 _ U]
 split
 ·rw[lD,d 4 _ U];simp[g]
 ·rfl
theorem FO(f:List Ev)(h:∀e∈f,1<=e.ed.kind/\e.ed.kind<=5)(k:List UInt8):(cp k (cf f)).filter jC=(sv f).filter λa=>decide (a.ed.key=k):=by
 induction f using oK with
 |h0=>rfl
 |hs l e d=>
  have g:∀x∈l,1<=x.ed.kind/\x.ed.kind<=5:=λx hx=>h x (by simp[hx]);have i:=h e (by simp);have d:=d g;rw[xZ,yk];unfold ik;rw[AW _ _ _ _ (vr l g).nd];by_cases b:k=e.ed.key
  ·rw[an b,Vn i,<-b,d];unfold qF;split
   ·rw[lD];simp[b]
   split
   ·rw[sg,sg];refine tX λa _=>?_;by_cases c:a.ed.key=k
    ·simp[c,b]
    ·simp[c]
   ·rfl
  ·rw[ai b,d];unfold qF;split
   ·rw[lD];have:¬e.ed.key=k:=λx=>b x.symm;simp[this]
   split
   ·rw[sg];refine tX λa _=>?_;by_cases c:a.ed.key=k
    ·have:¬a.ed.key=e.ed.key:=λx=>b (by rw[<-c,x]);simp[c,this];exact .inl b
    ·simp[c]
   ·rfl
theorem IZ(k:List UInt8):∀l:List (List UInt8),l≠[]->(∀x∈l,x=k)->dX l=[k]
 |[],h,_=>absurd rfl h
 |[x],_,h=>by rw[h x (by simp)];rfl
 |x::y::l,_,h=>by unfold dX;rw[an (by rw[h x (by simp),h y (by simp)])];exact IZ k (y::l) (by simp) λz a=>h z (eu _ a)
theorem DK{l:List Ev}{k:List UInt8}(h:∀e∈l,e.ed.key=k/\(e.ed.kind=1\/e.ed.kind=3\/e.ed.kind=4)):fi l=l.filter jC/\tp l=if l.filter jC=[]then[]else[k]:=by
 have c:fi l=l.filter jC:=by
  unfold fi;refine tX λa _=>?_;have:fU 2 ee l a=false:=by unfold fU;rw[ra];intro x hx;have:=(h x hx).2;have d:¬x.ed.kind=2:=U;simp[d]
  rw[this];unfold jC;simp
 refine⟨c,?_⟩;unfold tp;rw[c];split
 ·rename_i b;rw[b];rfl
 ·rename_i b;refine IZ k _ (λg=>b ?_) λx hx=>?_
  ·have:=(jZ ((l.filter jC).map λe=>e.ed.key)).length_eq;rw[g,bC]at this;exact dZ this.symm
  ·have:=(jZ _).mem_iff.1 hx;obtain⟨e,f,rfl⟩:=fA.1 this;exact(h e (fW.1 f).1).1
def ks(a:List Ev):List (List UInt8):=(iv (cf a)).map eW.key
theorem Nf(m:fz)(c:yH m):∀l:List (List UInt8),(l.flatMap λk=>lW (cp k m)).map eW.key=l.filter λk=>decide ((cp k m).filter jC≠[])
 |[]=>rfl
 |k::l=>by
  rw[uT,dA,Nf m c l];have g:∀e∈cp k m,e.ed.key=k/\(e.ed.kind=1\/e.ed.kind=3\/e.ed.kind=4):=λe a=>by obtain⟨p,h,d,f⟩:=sU a;have:=c.ev p h e f;rw[d]at this;exact this
  have b:=(DK g).2;by_cases a:(cp k m).filter jC=[]
  ·rw[an a]at b;have:lW (cp k m)=[]:=by unfold lW;rw[b];rfl
   rw[this,ot,ai (by simp[a])];rfl
  ·rw[ai a]at b;have:(lW (cp k m)).map eW.key=[k]:=by unfold lW;rw[b];rfl
   rw[this,ot,an (by simp[a])];rfl
theorem Wp(b:List Ev)(h:∀e∈b,1<=e.ed.kind/\e.ed.kind<=5):(ks b).Nodup/\∀k,k∈ks b↔∃a∈sv b,a.ed.key=k:=by
 have g:=vr b h;have e:ks b=(iO ((cf b).map (·.1))).filter λk=>decide ((cp k (cf b)).filter jC≠[]):=Nf _ g _;rw[e];refine⟨((jZ _).nodup_iff.2 g.nd).filter _,λk=>?_⟩;have i:=FO b h k;rw[fW,(jZ _).mem_iff,i];constructor
 ·rintro⟨_,c⟩;have c:(sv b).filter (λa=>decide (a.ed.key=k))≠[]:=by simpa using c
  obtain⟨a,d⟩:=List.exists_mem_of_ne_nil _ c;have:=fW.1 d;exact⟨a,this.1,by simpa using this.2⟩
 ·rintro⟨a,d,l⟩;have f:a∈(sv b).filter (λa=>decide (a.ed.key=k)):=fW.2 ⟨d,by simpa using l⟩;have m:(sv b).filter (λa=>decide (a.ed.key=k))≠[]:=List.ne_nil_of_mem f;refine⟨?_,by simpa using m⟩;rw[<-i]at f;obtain⟨p,n,j,_⟩:=sU (fW.1 f).1;exact fA.2 ⟨p,n,j⟩
theorem En{α:Type}[BEq α][LawfulBEq α]:∀(l m:List α),l.Nodup->(∀x∈l,x∈m)->l.length<=m.length
 |[],_,_,_=>eM _
 |x::l,m,hd,h=>by
  rw[sd]at hd;have hx:=h x (by simp);have b:=List.length_erase_of_mem hx;have c:0<m.length:=List.length_pos_of_mem hx;have:=En l (m.erase x) hd.2 λy hy=>by have a:y≠x:=λe=>hd.1 (e▸hy);exact(List.mem_erase_of_ne a).2 (h y (eu _ hy))
  simp only[dL];omega
end
section
theorem Fi(c:lH A)(a:∀e∈A,0<=e.r/\e.r<5):∀x∈A,x.n<=(cr A).get x.r.toNat:=by
 induction A using oK with
 |h0=>exactλx hx=>by cases hx
 |hs l e ih=>
  intro x hx;obtain⟨d,f⟩:=sC.1 c;have b:=a e (by simp);rw[qv,wq _ _ b];rcases ct.1 hx with hx|hx
  ·have:=ih d (λy hy=>a y (by simp[hy])) x hx;split<;>omega
  ·simp at hx;subst hx;have:=f.1;rw[an rfl];omega
theorem Ya(j:lH A)(d:∀e∈A,0<=e.r/\e.r<5):∀(r:Int) (n:Int),0<=r/\r<5->1<=n->n<=(cr A).get r.toNat->∃y∈A,y.r=r/\y.n=n:=by
 induction A using oK with
 |h0=>intro r n _ c a;rw[show(cr []).get r.toNat=0 from nT _]at a;omega
 |hs l e ih=>
  intro r n o c a;obtain⟨k,m⟩:=sC.1 j;have g:=d e (by simp);have b:=m.1;rw[qv,wq _ _ g]at a;by_cases i:n<=(cr l).get r.toNat
  ·obtain⟨y,hy,f⟩:=ih k (λy hy=>d y (by simp[hy])) r n o c i;exact⟨y,by simp[hy],f⟩
  ·split at a
   ·rename_i h;refine⟨e,by simp,U,?_⟩;have b:e.n=(cr l).get e.r.toNat+1:=b;rw[h]at b;omega
   ·omega
theorem Y7(j:lH A)(i:∀e∈A,0<=e.r/\e.r<5):∀x∈A,∀y∈A,x.r=y.r->x.n=y.n->x=y:=by
 induction A using oK with
 |h0=>exactλx hx=>by cases hx
 |hs l e ih=>
  intro x hx y hy f n;obtain⟨d,k⟩:=sC.1 j;have c:∀e∈l,0<=e.r/\e.r<5:=λy hy=>i y (by simp[hy]);have p:e.n=(cr l).get e.r.toNat+1:=k.1;rcases ct.1 hx with a|a<;>rcases ct.1 hy with b|b
  ·exact ih d c x a y b f n
  ·have o:y=e:=by simpa using b
   subst o;have:=Fi d c x a;rw[f]at this;omega
  ·have m:x=e:=by simpa using a
   subst m;have:=Fi d c y b;rw[<-f]at this;omega
  ·have g:x=e:=by simpa using a
   have h:y=e:=by simpa using b
   rw[g,h]
def ix(c:aJ)(s:Int)(l:List Ev):Prop:=∀A e B,l=A++e::B->(∀i,i<5->e.c.get i<=(cr A).get i)/\(e.r=s->e.c=cr A/\kb c.l c.p (iv (cf A)) e.ed=0)
theorem ix.nil(c:aJ)(s:Int):ix c s []:=λA e B h=>by have:=cn List.length h;simp at this
theorem ix.snoc{s:Int}{l:List Ev}{e:Ev}(h:ix c s l)(d:∀i,i<5->e.c.get i<=(cr l).get i)(f:e.r=s->e.c=cr l/\kb c.l c.p (iv (cf l)) e.ed=0):ix c s (l++[e]):=λA x B b=>by
 rcases CZ B with rfl|⟨a,y,rfl⟩
 ·obtain⟨rfl,hx⟩:=vq b rfl;simp only[jH,nV]at hx;subst hx;exact⟨d,f⟩
 ·have:l++[e]=(A++x::a)++[y]:=by rw[b];simp
  obtain⟨rfl,_⟩:=vq this rfl;exact h A x a rfl
def BW:aj->List Ev->Prop
 |_,[]=>True
 |c,e::l=>(∀i,i<5->e.c.get i<=c.get i)/\BW (gM c e) l
theorem ix.app{c:aJ}{s:Int}:∀(D l:List Ev),ix c s l->BW (cr l) D->(∀e∈D,e.r≠s)->ix c s (l++D)
 |[],l,h,_,_=>by rw[ck];exact h
 |e::D,l,h,hr,hs=>by have a:=h.snoc hr.1 (λb=>absurd b (hs e (by simp)));have:=ix.app D (l++[e]) a (by rw[qv];exact hr.2) λx hx=>hs x (eu _ hx);rwa[dB]at this
theorem ZX(c:aj)(l:List Ev):fG l->BW c (drain c l).1:=by
 refine xu (motive:=λc l=>fG l->BW c (drain c l).1) (λc l h _=>?_) (λc l i hi h f hd=>?_) c l
 ·rw[oZ h];exact trivial
 ·rw[qL hd hi h];have d:=h.2.1;have e:(l[i]'hi).n=c.get (l[i]'hi).r.toNat+1:=by have:=d.2.2.2.1;omega
  have b:=LI e;have a:=f (hd.erase i);rw[<-b]at a;rw[<-b];exact⟨(aj.le_iff _ _).1 d.2.2.2.2,a⟩
theorem ML(l:List Ev)(a:Ev):a∈sv l↔∃A B,l=A++a::B/\a.ed.kind=1/\∀d∈B,d.ed.kind=2->a.ed.key=d.ed.key->a.dq d=false:=by
 induction l using oK with
 |h0=>
  constructor
  ·intro h;cases h
  ·rintro⟨A,B,h,_⟩;have:=cn List.length h;simp at this
 |hs l e ih=>
  rw[yk];constructor
  ·intro h;unfold qF at h;split at h
   ·rename_i k;rcases ct.1 h with h|h
    ·obtain⟨A,B,c,f,b⟩:=ih.1 h;refine⟨A,B++[e],by rw[c];simp,f,λd hd g=>?_⟩;rcases ct.1 hd with hd|hd
     ·exact b d hd g
     ·simp at hd;subst hd;omega
    ·simp at h;subst h;exact⟨l,[],rfl,k,λd hd=>by cases hd⟩
   split at h
   ·obtain⟨k,j⟩:=fW.1 h;obtain⟨A,B,c,f,b⟩:=ih.1 k;refine⟨A,B++[e],by rw[c];simp,f,λd hd g i=>?_⟩;rcases ct.1 hd with hd|hd
    ·exact b d hd g i
    ·simp at hd;subst hd;simpa[i]using j
   ·rename_i k j;obtain⟨A,B,c,f,b⟩:=ih.1 h;refine⟨A,B++[e],by rw[c];simp,f,λd hd g i=>?_⟩;rcases ct.1 hd with hd|hd
    ·exact b d hd g i
    ·simp at hd;subst hd;exact absurd g j
  ·rintro⟨A,B,c,f,b⟩;unfold qF;rcases CZ B with rfl|⟨n,y,rfl⟩
   ·obtain⟨rfl,hx⟩:=vq c rfl;simp only[jH,nV]at hx;subst hx;rw[an f];simp
   ·have j:l++[e]=(A++a::n)++[y]:=by rw[c];simp
    obtain⟨o,hy⟩:=vq j rfl;simp only[jH,nV]at hy;subst hy;have m:a∈sv l:=ih.2 ⟨A,n,o,f,λd hd=>b d (by simp[hd])⟩;split
    ·exact ct.2 (.inl m)
    split
    ·rename_i g;refine fW.2 ⟨m,?_⟩;by_cases i:a.ed.key=e.ed.key
     ·have:=b e (by simp) g i;simp[this]
     ·simp[i]
    ·exact m
structure yQ(c:aJ)(N:Nat)(D:Nat->List Ev):Prop where
 num:∀s,s<N->lH (D s)
 may:∀s,s<N->∀e∈D s,e.aW
 ok:∀s,s<N->ix c s (D s)
 uq:∀s,s<N->∀e∈D s,e.r<N/\e∈D e.r.toNat
theorem xo{e:Ed}(h:e.err=0):1<=e.kind/\e.kind<=5:=by
 unfold Ed.err at h;split at h
 ·cases h
 ·omega
end
end Go.Proofs.YtogcfijlhpaeeaaGreat
