/- Texts. No condition. -/
import Derived.Test.YtogcfijlhpaeeaaGreatYpbf
open Go.RowKit Go.Proofs.Tryz
set_option linter.all false
set_option maxHeartbeats 32000000
namespace Go.Proofs.YtogcfijlhpaeeaaGreat
variable{k:Nat}{L M As:List aa}{v:Value}{α:Type}{q:List UInt8}{ys:List bQ}
section
theorem aA.Gy:∀(As a:List aa) (L:List aa),Sub (aA As::aA a::L) (aA (As++a)::L)
 |[],a,L=>ar (ly _) (bW _)
 |A::As,a,L=>ar (oi (A:=A) (As:=As) (aA a::L)) (ar (bl A (aA.Gy As a L)) (og (A:=A) (As:=As++a) L))
theorem aI.more[ab α]{xs:List α}(h:aI (aA As::M) v xs)(a:List aa):aI (aA (a++As)::M) v xs:=
 h.sub (ar (iC _ (bW _)) (aA.Gy a As M))
theorem aI.Eg[ab α]{xs:List α}(h:aI (aA L::aA As::M) v xs):aI (aA (L++As)::M) v xs:=
 h.sub (aA.Gy L As M)
structure kB(l:List Ev)(key:List UInt8)(cq:Int)(k:Nat)(xs:List bQ):Prop where
 o:(xs.map (·.l)).Pairwise (·<·)
 m:∀v,v∈xs.map (·.l)↔∃e∈l.take k,iF l (fi l) e=true/\e.ed.key=key/\e.ed.label=cq/\e.ed.kind=4/\e.ed.value=v
 n:xs.length<=k
theorem kB.nil(l:List Ev)(a:List UInt8)(cq:Int):kB l a cq 0 []:=⟨List.Pairwise.nil,λv=>⟨λh=>by simp at h,λ⟨e,h,_⟩=>by simp at h⟩,bj _⟩
theorem kB.skip{l:List Ev}{cq:Int}{xs:List bQ}(h:kB l q cq k xs)(b:k<l.length)(c:¬(iF l (fi l) (l[k]'b)=true/\(l[k]'b).ed.key=q/\(l[k]'b).ed.label=cq/\(l[k]'b).ed.kind=4)):kB l q cq (k+1) xs:=by
 refine⟨h.o,λv=>?_,by have:=h.n;omega⟩;rw[h.m,da b];constructor
 ·rintro⟨e,a,hx⟩;exact⟨e,lk _ a,hx⟩
 ·rintro⟨e,a,hx⟩;rcases ct.1 a with a|a
  ·exact⟨e,a,hx⟩
  ·simp at a;subst a;exact absurd ⟨hx.1,hx.2.1,hx.2.2.1,hx.2.2.2.1⟩ c
theorem kB.add{l:List Ev}{cq:Int}{xs:List bQ}(h:kB l q cq k xs)(b:k<l.length)(hy:iF l (fi l) (l[k]'b)=true/\(l[k]'b).ed.key=q/\(l[k]'b).ed.label=cq/\(l[k]'b).ed.kind=4)(c:WQ xs (l[k]'b).ed.value ys):kB l q cq (k+1) ys:=by
 refine⟨c.o,λv=>?_,by have:=h.n;have:=c.n;omega⟩;rw[c.m,h.m,da b];constructor
 ·rintro(⟨e,a,hx⟩|rfl)
  ·exact⟨e,lk _ a,hx⟩
  ·exact⟨_,mT _ (by simp),hy.1,hy.2.1,hy.2.2.1,hy.2.2.2,rfl⟩
 ·rintro⟨e,a,hx⟩;rcases ct.1 a with a|a
  ·exact .inl ⟨e,a,hx⟩
  ·simp at a;subst a;exact .inr hx.2.2.2.2.symm
structure tz(l:List Ev)(k:Nat)(xs:List bQ):Prop where
 o:(xs.map (·.l)).Pairwise (·<·)
 m:∀v,v∈xs.map (·.l)↔∃e∈l.take k,nB l e=true/\e.ed.key=v
 n:xs.length<=k
theorem tz.skip{l:List Ev}{xs:List bQ}(h:tz l k xs)(b:k<l.length)(c:nB l (l[k]'b)=false):tz l (k+1) xs:=by
 refine⟨h.o,λv=>?_,by have:=h.n;omega⟩;rw[h.m,da b];constructor
 ·rintro⟨e,a,hx⟩;exact⟨e,lk _ a,hx⟩
 ·rintro⟨e,a,hx⟩;rcases ct.1 a with a|a
  ·exact⟨e,a,hx⟩
  ·simp at a;subst a;rw[c]at hx;exact absurd hx.1 (by simp)
theorem tz.add{l:List Ev}{xs:List bQ}(h:tz l k xs)(b:k<l.length)(hy:nB l (l[k]'b)=true)(c:WQ xs (l[k]'b).ed.key ys):tz l (k+1) ys:=by
 refine⟨c.o,λv=>?_,by have:=h.n;have:=c.n;omega⟩;rw[c.m,h.m,da b];constructor
 ·rintro(⟨e,a,hx⟩|rfl)
  ·exact⟨e,lk _ a,hx⟩
  ·exact⟨_,mT _ (by simp),hy,rfl⟩
 ·rintro⟨e,a,hx⟩;rcases ct.1 a with a|a
  ·exact .inl ⟨e,a,hx⟩
  ·simp at a;subst a;exact .inr hx.2.symm
theorem NR{xs:List (List UInt8)}(h:xs.Pairwise (·<·)):xs.Nodup:=h.imp λ{a b} hab he=>by subst he;exact List.lt_irrefl _ hab
set_option maxRecDepth 20000 attribute [local irreducible] Ex aM Fn bI bJ bV fin meet ch aX bZ aP aN aI Rd aK Row ao Sub bk bP bS bN bg bR Hid bY
section
attribute [local irreducible] aA
theorem OL(v0:Value)(l:List Ev)(M:List aa)(hr:aI M v0 l)(hl:l.length<=100000):Fn prog 74 #[v0] M
  λr L'=>∃(cs:List Ct) (As:List aa),O1 r/\N8 l (cs.map Ct.gK)/\(∀b∈cs,b.Rd (aA As::M))/\(cs.length<=l.length/\∀b∈cs,b.s0.length<=l.length/\b.s1.length<=l.length)/\L'=gG r cs::aA As::M:=by
 refine fo func74 ntmps74 ?_;refine rn ?_;(repeat(first|intro(g:Nat)|intro(v:Value)|intro(o:O1 _)|intro(cs:List Value)|intro h));obtain⟨v3,m7⟩:∃v3,v3=Value.slice (some ⟨g,0,none⟩) 0 0:=⟨_,rfl⟩;have o3:v3.oneCell'=true:=by rw[m7];rfl
 refine bF (L':=aA [aK v3 9 ([]:List bQ)]::M) ?_ (ar (mr [_] M) (by rw[m7];exact cA (α:=bQ) _ _ _));rw[<-m7];clear m7;refine bm [3,4] (λz vs L'=>∃(i:Nat) (vk:Value) (ks:List bQ) (As:List aa),i<=l.length/\z=l.length-i/\vk.oneCell'=true/\tz l i ks/\aI (aA As::M) vk ks/\vs=[vk,.int .i64 i]/\L'=aA As::M) l.length ⟨0,v3,[],_,U,rfl,o3,⟨List.Pairwise.nil,λv=>⟨λh=>by simp at h,λ⟨e,h,_⟩=>by simp at h⟩,bj _⟩,(gr (L:=_::M) 0 rfl).sub (ky [_] M),rfl,rfl⟩ ?_;rintro z vs g0 L1 ⟨i,vk,ks,As,hi,rfl,ok,hk,p,rfl,rfl⟩;refine bp [0,3,4] rG (λgk=>?_);by_cases Q:i<l.length
 ·have C7:=hk.n;refine rn ?_;(repeat(first|intro(g:Nat)|intro(v:Value)|intro(o:O1 _)|intro(cs:List Value)|intro h));refine bc [] J call144 J J (Kg v0 l (l[i]'Q) _ rD U) ?_;rintro _ _ ⟨rfl,rfl⟩;cases hb:nB l (l[i]'Q)
  ·refine rn ?_;(repeat(first|intro(g:Nat)|intro(v:Value)|intro(o:O1 _)|intro(cs:List Value)|intro h));exact aS ⟨l.length-(i+1),_,U,rB,i+1,vk,ks,As,U,rfl,ok,hk.skip Q hb,p,av rfl (av (aQ U) rfl),rfl⟩
  ·refine rn ?_;(repeat(first|intro(g:Nat)|intro(v:Value)|intro(o:O1 _)|intro(cs:List Value)|intro h));refine ca [] call145 (Cw vk ks (l[i]'Q).ed.key _ _ p (bW _) ok U hk.o) ?_;rintro u _ ⟨x,ys,ou,j5,hw,rfl⟩;refine rn ?_;(repeat(first|intro(g:Nat)|intro(v:Value)|intro(o:O1 _)|intro(cs:List Value)|intro h));exact aS ⟨l.length-(i+1),aA (x++As)::M,U,aA.app x As M,i+1,u,ys,x++As,U,rfl,ou,hk.add Q hb hw,j5.Eg,av rfl (av (aQ U) rfl),rfl⟩
 obtain rfl:i=l.length:=U;have C7:=hk.n;refine rn ?_;(repeat(first|intro(g:Nat)|intro(v:Value)|intro(o:O1 _)|intro(cs:List Value)|intro h));revert g;intro g5;obtain⟨C0,r9⟩:∃C0:List Ct->Prop,C0=λcs=>cs.map Ct.key=(ks.take cs.length).map (·.l)/\cs.length<=ks.length/\∀b∈cs,kB l b.key 0 l.length b.s0/\kB l b.key 1 l.length b.s1:=⟨_,rfl⟩;refine bF (L':=gG (.slice (some ⟨g5,0,none⟩) 0 0) []::aA As::M) ?_ (cA (α:=Ct) _ _ _);refine bm [5,6] (λz vs L'=>∃(i:Nat) (I:Value) (cs:List Ct) (As:List aa),i<=ks.length/\z=ks.length-i/\I.oneCell'=true/\cs.length=i/\C0 cs/\aI (aA As::M) vk ks/\(∀b∈cs,b.Rd (aA As::M))/\vs=[I,.int .i64 i]/\L'=gG I cs::aA As::M) ks.length ⟨0,_,[],As,U,rfl,rfl,rfl,by rw[r9];exact⟨rfl,eM _,(λb h=>by cases h)⟩,p,(λb h=>by cases h),rfl,rfl⟩ ?_;rintro z vs g1 L1 ⟨i,I,cs,As,hi,rfl,o5,u7,hC,p,q,rfl,rfl⟩;refine bp [0,3,5,6] rG (λgk=>?_);by_cases Q:i<ks.length
 case neg=>
  obtain rfl:i=ks.length:=U;rw[r9]at hC;obtain⟨w6,_,s9⟩:=hC;rw[u7,dI]at w6;refine rn ?_;(repeat(first|intro(g:Nat)|intro(v:Value)|intro(o:O1 _)|intro(cs:List Value)|intro h));refine fr ?_;have e1:(cs.map Ct.gK).map eW.key=ks.map (·.l):=by rw[nE,<-w6];rfl
  refine⟨_,rB,cs,As,o5,⟨by rw[e1];exact NR hk.o,λk=>?_,λa ha cq C8=>?_⟩,q,⟨U,λb h=>⟨(s9 b h).1.n,(s9 b h).2.n⟩⟩,rfl⟩
  ·rw[e1,hk.m,dI];exact⟨λ⟨e,he,h1,h2⟩=>⟨e,CJ.2 ⟨he,h1⟩,h2⟩,λ⟨e,he,h2⟩=>⟨e,(CJ.1 he).1,(CJ.1 he).2,h2⟩⟩
  ·obtain⟨b,e8,rfl⟩:=fA.1 ha;have w5:=s9 b e8;have s:∀(xs:List bQ),kB l b.key cq l.length xs->(xs.map (·.l)).Nodup/\∀v,v∈xs.map (·.l)↔∃e,CO l b.key cq e/\e.ed.value=v:=λxs h=>by refine⟨NR h.o,λv=>?_⟩;rw[h.m,dI];exact⟨λ⟨e,he,a1,a2,a3,a4,a5⟩=>⟨e,⟨he,a1,a2,a3,a4⟩,a5⟩,λ⟨e,⟨he,a1,a2,a3,a4⟩,a5⟩=>⟨e,he,a1,a2,a3,a4,a5⟩⟩
   rcases C8 with rfl|rfl
   ·exact s b.s0 w5.1
   ·exact s b.s1 w5.2
 obtain⟨s,e9⟩:∃s,s=(ks[i]'Q).l:=⟨_,rfl⟩;refine rn ?_;(repeat(first|intro(g:Nat)|intro(v:Value)|intro(o:O1 _)|intro(cs:List Value)|intro h));rw[<-e9];revert g;intro S;refine bF (L':=ao S 75 (eL s (λ_=>false) (λ_=>[]) (λ_=>.slice none 0 0))::gG I cs::aA As::M) ?_ rB;refine bm [8] (λz vs L'=>∃(n:Int) (H:Nat->Bool) (C:Nat->List UInt8) (V:Nat->Value) (d:Nat->List bQ) (As:List aa),(0<=n/\n<=2)/\z=(2-n).toNat/\(∀j,(V j).oneCell'=true/\aI (aA As::M) (V j) (d j))/\(0<n->kB l s 0 l.length (d 0))/\(1<n->kB l s 1 l.length (d 1))/\(n<=0->d 0=[])/\(n<=1->d 1=[])/\aI (aA As::M) vk ks/\(∀b∈cs,b.Rd (aA As::M))/\vs=[.int .i64 n]/\L'=ao S 75 (eL s H C V)::gG I cs::aA As::M) 2 ⟨0,_,_,λ_=>.slice none 0 0,λ_=>[],As,U,rfl,(λ_=>⟨rfl,mC _⟩),(λh=>by omega),(λh=>by omega),(λ_=>rfl),(λ_=>rfl),p,q,rfl,rfl⟩ ?_;clear p q;rintro z vs g2 L2 ⟨n,H,C,V,d,As,hn,rfl,m,u5,z8,u6,u4,p,q,rfl,rfl⟩;refine bp [0,3,5,6,7,8] rG (λgk=>?_);have C9:n=0\/n=1\/n=2:=U;rcases C9 with rfl|rfl|rfl
 ·refine rn ?_;(repeat(first|intro(g:Nat)|intro(v:Value)|intro(o:O1 _)|intro(cs:List Value)|intro h));revert g;intro p9;revert g;intro g9;refine bF (L':=aK (.slice (some ⟨g9,0,none⟩) 0 0) 228 ([]:List fS)::aK (.slice (some ⟨p9,0,none⟩) 0 0) 9 ([]:List bQ)::ao S 75 (eL s H C V)::gG I cs::aA As::M) ?_ (ar (bl _ (cA (α:=bQ) _ _ _)) (cA (α:=fS) _ _ _));obtain⟨d7,d8⟩:∃d7,d7=d:=⟨_,rfl⟩;have j3:kB l s 0 0 (d 0):=by rw[u6 U];exact kB.nil l s 0
  refine bm [9,10,11] (λz vs L'=>∃(k:Nat) (w A:Value) (t:List fS) (W:List bQ) (V:Nat->Value) (d:Nat->List bQ) (As:List aa),k<=l.length/\z=l.length-k/\w.oneCell'=true/\A.oneCell'=true/\t.length=W.length/\W.length<=k/\(∀j,(V j).oneCell'=true/\aI (aA As::M) (V j) (d j))/\kB l s 0 k (d 0)/\(∀j,j≠0->d j=d7 j)/\aI (aA As::M) vk ks/\(∀b∈cs,b.Rd (aA As::M))/\vs=[w,A,.int .i64 k]/\L'=aK w 228 t::aK A 9 W::ao S 75 (eL s H C V)::gG I cs::aA As::M) l.length ⟨0,_,_,[],[],V,d,As,U,rfl,rfl,rfl,rfl,by simp,m,j3,(λj _=>by rw[d8]),p,q,rfl,rfl⟩ ?_;clear m j3 p q;rintro z vs g3 L3 ⟨k,w,A,t,W,V,d,As,C6,rfl,o9,c8,R,B0,m,y,F,p,q,rfl,rfl⟩;refine bp [0,3,5,6,7,8,9,10,11] rG (λgk=>?_);by_cases f:k<l.length
  ·by_cases c1:(l[k]'f).ed.key=(ks[i]'Q).l
   case neg=>
    refine rn ?_;(repeat(first|intro(g:Nat)|intro(v:Value)|intro(o:O1 _)|intro(cs:List Value)|intro h));refine nP ?_;(repeat(first|intro(g:Nat)|intro(v:Value)|intro(o:O1 _)|intro(cs:List Value)|intro h));refine rn ?_;(repeat(first|intro(g:Nat)|intro(v:Value)|intro(o:O1 _)|intro(cs:List Value)|intro h));exact aS ⟨l.length-(k+1),_,U,rB,k+1,w,A,t,W,V,d,As,U,rfl,o9,c8,R,U,m,y.skip f (by simp[e9,c1]),F,p,q,av rfl (av rfl (av (aQ U) rfl)),rfl⟩
   have y7:¬(l[k]'f).ed.key≠(ks[i]'Q).l:=λh=>h c1;by_cases c2:(l[k]'f).ed.label=0
   case neg=>
    refine rn ?_;(repeat(first|intro(g:Nat)|intro(v:Value)|intro(o:O1 _)|intro(cs:List Value)|intro h));refine nP ?_;(repeat(first|intro(g:Nat)|intro(v:Value)|intro(o:O1 _)|intro(cs:List Value)|intro h));refine rn ?_;(repeat(first|intro(g:Nat)|intro(v:Value)|intro(o:O1 _)|intro(cs:List Value)|intro h));exact aS ⟨l.length-(k+1),_,U,rB,k+1,w,A,t,W,V,d,As,U,rfl,o9,c8,R,U,m,y.skip f (by simp[c2]),F,p,q,av rfl (av rfl (av (aQ U) rfl)),rfl⟩
   refine rn ?_;(repeat(first|intro(g:Nat)|intro(v:Value)|intro(o:O1 _)|intro(cs:List Value)|intro h));refine nP ?_;(repeat(first|intro(g:Nat)|intro(v:Value)|intro(o:O1 _)|intro(cs:List Value)|intro h));refine bX J J J ?_;refine bc [] J call146 rE J (Nn v0 l (l[k]'f) _ rD U) ?_;rintro _ _ ⟨rfl,rfl⟩;cases c3:iF l (fi l) (l[k]'f)
   ·refine bn ?_;refine br rF ?_;refine mn ?_;(repeat(first|intro(g:Nat)|intro(v:Value)|intro(o:O1 _)|intro(cs:List Value)|intro h));refine rn ?_;(repeat(first|intro(g:Nat)|intro(v:Value)|intro(o:O1 _)|intro(cs:List Value)|intro h));exact aS ⟨l.length-(k+1),_,U,rB,k+1,w,A,t,W,V,d,As,U,rfl,o9,c8,R,U,m,y.skip f (by simp[c3]),F,p,q,av rfl (av rfl (av (aQ U) rfl)),rfl⟩
   by_cases c4:(l[k]'f).ed.kind=3
   ·refine bn ?_;refine br rF ?_;refine mn ?_;(repeat(first|intro(g:Nat)|intro(v:Value)|intro(o:O1 _)|intro(cs:List Value)|intro h));refine rn ?_;(repeat(first|intro(g:Nat)|intro(v:Value)|intro(o:O1 _)|intro(cs:List Value)|intro h));refine pn (a:=(⟨(l[k]'f).h,(l[k]'f).r⟩:fS)) J J J J (λgs=>?_);refine rn ?_;(repeat(first|intro(g:Nat)|intro(v:Value)|intro(o:O1 _)|intro(cs:List Value)|intro h));exact aS ⟨l.length-(k+1),_,U,rB,k+1,_,_,t++[⟨(l[k]'f).h,(l[k]'f).r⟩],W++[⟨(l[k]'f).ed.value⟩],V,d,As,U,rfl,by assumption,by assumption,by simp[R],by simp;omega,m,y.skip f (by simp[c4]),F,p,q,av rfl (av rfl (av (aQ U) rfl)),rfl⟩
   have c5:(l[k]'f).ed.kind=4:=by
    unfold iF at c3;rw[ai c4]at c3;split at c3
    ·assumption
    ·cases c3
   have A9:=(m 0).1;refine bn ?_;refine br rF ?_;refine mn ?_;(repeat(first|intro(g:Nat)|intro(v:Value)|intro(o:O1 _)|intro(cs:List Value)|intro h));refine rn ?_;(repeat(first|intro(g:Nat)|intro(v:Value)|intro(o:O1 _)|intro(cs:List Value)|intro h));refine oE ?_;(repeat(first|intro(g:Nat)|intro(v:Value)|intro(o:O1 _)|intro(cs:List Value)|intro h));refine ma [] call145 (Cw (V 0) (d 0) (l[k]'f).ed.value _ (aA As::M) (m 0).2 rB (m 0).1 (by have:=y.n;omega) y.o) ?_;rintro u _ ⟨x,ys,ou,j5,hw,rfl⟩;refine bn ?_;refine br rF ?_;refine mn ?_;(repeat(first|intro(g:Nat)|intro(v:Value)|intro(o:O1 _)|intro(cs:List Value)|intro h));refine rn ?_;(repeat(first|intro(g:Nat)|intro(v:Value)|intro(o:O1 _)|intro(cs:List Value)|intro h));refine aS ⟨l.length-(k+1),aK w 228 t::aK A 9 W::ao S 75 (eL s H C (dF V 0 u))::gG I cs::aA (x++As)::M,U,?_,k+1,w,A,t,W,dF V 0 u,dF d 0 ys,x++As,U,rfl,o9,c8,R,U,(λj=>?_),y.add f ⟨c3,by rw[e9];exact c1,c2,c5⟩ hw,(λj hj=>?_),p.more x,(λb h=>⟨(q b h).1.more x,(q b h).2.more x⟩),av rfl (av rfl (av (aQ U) rfl)),rfl⟩
   ·exact ar (bl _ (bl _ (bl _ (bl _ (aA.app x As M))))) rP
   ·unfold dF;split
    ·exact⟨ou,j5.Eg⟩
    ·exact⟨(m j).1,(m j).2.more x⟩
   ·unfold dF;rw[ai hj];exact F j hj
  obtain rfl:k=l.length:=U;refine rn ?_;(repeat(first|intro(g:Nat)|intro(v:Value)|intro(o:O1 _)|intro(cs:List Value)|intro h));refine bc [] J call147 J J (Ml w t _ rD U) ?_;rintro _ _ ⟨kk,B8,B9,rfl,rfl⟩;by_cases B7:0<=kk
  ·refine rn ?_;(repeat(first|intro(g:Nat)|intro(v:Value)|intro(o:O1 _)|intro(cs:List Value)|intro h));refine aS ⟨(2-(0+1):Int).toNat,ao S 75 (eL s (dF H 0 true) (dF C 0 (W[kk.toNat]'U).l) V)::gG I cs::aA As::M,by decide,rP,0+1,_,_,V,d,As,U,rfl,m,(λ_=>y),(λh=>by omega),(λh=>by omega),(λ_=>by rw[F 1 U,d8];exact u4 U),p,q,rfl,rfl⟩
  ·refine rn ?_;(repeat(first|intro(g:Nat)|intro(v:Value)|intro(o:O1 _)|intro(cs:List Value)|intro h));exact aS ⟨(2-(0+1):Int).toNat,_,by decide,rP,0+1,H,C,V,d,As,U,rfl,m,(λ_=>y),(λh=>by omega),(λh=>by omega),(λ_=>by rw[F 1 U,d8];exact u4 U),p,q,rfl,rfl⟩
 ·have u6:=u4;refine rn ?_;(repeat(first|intro(g:Nat)|intro(v:Value)|intro(o:O1 _)|intro(cs:List Value)|intro h));revert g;intro p9;revert g;intro g9;refine bF (L':=aK (.slice (some ⟨g9,0,none⟩) 0 0) 228 ([]:List fS)::aK (.slice (some ⟨p9,0,none⟩) 0 0) 9 ([]:List bQ)::ao S 75 (eL s H C V)::gG I cs::aA As::M) ?_ (ar (bl _ (cA (α:=bQ) _ _ _)) (cA (α:=fS) _ _ _));obtain⟨d7,d8⟩:∃d7,d7=d:=⟨_,rfl⟩;have j3:kB l s 1 0 (d 1):=by rw[u6 U];exact kB.nil l s 1
  refine bm [9,10,11] (λz vs L'=>∃(k:Nat) (w A:Value) (t:List fS) (W:List bQ) (V:Nat->Value) (d:Nat->List bQ) (As:List aa),k<=l.length/\z=l.length-k/\w.oneCell'=true/\A.oneCell'=true/\t.length=W.length/\W.length<=k/\(∀j,(V j).oneCell'=true/\aI (aA As::M) (V j) (d j))/\kB l s 1 k (d 1)/\(∀j,j≠1->d j=d7 j)/\aI (aA As::M) vk ks/\(∀b∈cs,b.Rd (aA As::M))/\vs=[w,A,.int .i64 k]/\L'=aK w 228 t::aK A 9 W::ao S 75 (eL s H C V)::gG I cs::aA As::M) l.length ⟨0,_,_,[],[],V,d,As,U,rfl,rfl,rfl,rfl,by simp,m,j3,(λj _=>by rw[d8]),p,q,rfl,rfl⟩ ?_;clear m j3 p q;rintro z vs g3 L3 ⟨k,w,A,t,W,V,d,As,C6,rfl,o9,c8,R,B0,m,y,F,p,q,rfl,rfl⟩;refine bp [0,3,5,6,7,8,9,10,11] rG (λgk=>?_);by_cases f:k<l.length
  ·by_cases c1:(l[k]'f).ed.key=(ks[i]'Q).l
   case neg=>
    refine rn ?_;(repeat(first|intro(v:Value)|intro(o:O1 _)|intro(cs:List Value)|intro h));refine nP ?_;(repeat(first|intro(v:Value)|intro(o:O1 _)|intro(cs:List Value)|intro h));refine rn ?_;(repeat(first|intro(v:Value)|intro(o:O1 _)|intro(cs:List Value)|intro h));exact aS ⟨l.length-(k+1),_,U,rB,k+1,w,A,t,W,V,d,As,U,rfl,o9,c8,R,U,m,y.skip f (by simp[e9,c1]),F,p,q,av rfl (av rfl (av (aQ U) rfl)),rfl⟩
   have y7:¬(l[k]'f).ed.key≠(ks[i]'Q).l:=λh=>h c1;by_cases c2:(l[k]'f).ed.label=1
   case neg=>
    refine rn ?_;(repeat(first|intro(v:Value)|intro(o:O1 _)|intro(cs:List Value)|intro h));refine nP ?_;(repeat(first|intro(v:Value)|intro(o:O1 _)|intro(cs:List Value)|intro h));refine rn ?_;(repeat(first|intro(v:Value)|intro(o:O1 _)|intro(cs:List Value)|intro h));exact aS ⟨l.length-(k+1),_,U,rB,k+1,w,A,t,W,V,d,As,U,rfl,o9,c8,R,U,m,y.skip f (by simp[c2]),F,p,q,av rfl (av rfl (av (aQ U) rfl)),rfl⟩
   refine rn ?_;(repeat(first|intro(v:Value)|intro(o:O1 _)|intro(cs:List Value)|intro h));refine nP ?_;(repeat(first|intro(v:Value)|intro(o:O1 _)|intro(cs:List Value)|intro h));refine bX J J J ?_;refine bc [] J call146 rE J (Nn v0 l (l[k]'f) _ rD U) ?_;rintro _ _ ⟨rfl,rfl⟩;cases c3:iF l (fi l) (l[k]'f)
   ·refine bn ?_;refine br rF ?_;refine mn ?_;(repeat(first|intro(v:Value)|intro(o:O1 _)|intro(cs:List Value)|intro h));refine rn ?_;(repeat(first|intro(v:Value)|intro(o:O1 _)|intro(cs:List Value)|intro h));exact aS ⟨l.length-(k+1),_,U,rB,k+1,w,A,t,W,V,d,As,U,rfl,o9,c8,R,U,m,y.skip f (by simp[c3]),F,p,q,av rfl (av rfl (av (aQ U) rfl)),rfl⟩
   by_cases c4:(l[k]'f).ed.kind=3
   ·refine bn ?_;refine br rF ?_;refine mn ?_;(repeat(first|intro(v:Value)|intro(o:O1 _)|intro(cs:List Value)|intro h));refine rn ?_;(repeat(first|intro(v:Value)|intro(o:O1 _)|intro(cs:List Value)|intro h));refine pn (a:=(⟨(l[k]'f).h,(l[k]'f).r⟩:fS)) J J J J (λgs=>?_);refine rn ?_;(repeat(first|intro(v:Value)|intro(o:O1 _)|intro(cs:List Value)|intro h));exact aS ⟨l.length-(k+1),_,U,rB,k+1,_,_,t++[⟨(l[k]'f).h,(l[k]'f).r⟩],W++[⟨(l[k]'f).ed.value⟩],V,d,As,U,rfl,by assumption,by assumption,by simp[R],by simp;omega,m,y.skip f (by simp[c4]),F,p,q,av rfl (av rfl (av (aQ U) rfl)),rfl⟩
   have c5:(l[k]'f).ed.kind=4:=by
    unfold iF at c3;rw[ai c4]at c3;split at c3
    ·assumption
    ·cases c3
   have A9:=(m 1).1;refine bn ?_;refine br rF ?_;refine mn ?_;(repeat(first|intro(v:Value)|intro(o:O1 _)|intro(cs:List Value)|intro h));refine rn ?_;(repeat(first|intro(v:Value)|intro(o:O1 _)|intro(cs:List Value)|intro h));refine oE ?_;(repeat(first|intro(v:Value)|intro(o:O1 _)|intro(cs:List Value)|intro h));refine ma [] call145 (Cw (V 1) (d 1) (l[k]'f).ed.value _ (aA As::M) (m 1).2 rB (m 1).1 (by have:=y.n;omega) y.o) ?_;rintro u _ ⟨x,ys,ou,j5,hw,rfl⟩;refine bn ?_;refine br rF ?_;refine mn ?_;(repeat(first|intro(v:Value)|intro(o:O1 _)|intro(cs:List Value)|intro h));refine rn ?_;(repeat(first|intro(v:Value)|intro(o:O1 _)|intro(cs:List Value)|intro h));refine aS ⟨l.length-(k+1),aK w 228 t::aK A 9 W::ao S 75 (eL s H C (dF V 1 u))::gG I cs::aA (x++As)::M,U,?_,k+1,w,A,t,W,dF V 1 u,dF d 1 ys,x++As,U,rfl,o9,c8,R,U,(λj=>?_),y.add f ⟨c3,by rw[e9];exact c1,c2,c5⟩ hw,(λj hj=>?_),p.more x,(λb h=>⟨(q b h).1.more x,(q b h).2.more x⟩),av rfl (av rfl (av (aQ U) rfl)),rfl⟩
   ·exact ar (bl _ (bl _ (bl _ (bl _ (aA.app x As M))))) rP
   ·unfold dF;split
    ·exact⟨ou,j5.Eg⟩
    ·exact⟨(m j).1,(m j).2.more x⟩
   ·unfold dF;rw[ai hj];exact F j hj
  obtain rfl:k=l.length:=U;refine rn ?_;(repeat(first|intro(v:Value)|intro(o:O1 _)|intro(cs:List Value)|intro h));refine bc [] J call147 J J (Ml w t _ rD U) ?_;rintro _ _ ⟨kk,B8,B9,rfl,rfl⟩;by_cases B7:0<=kk
  ·refine rn ?_;(repeat(first|intro(v:Value)|intro(o:O1 _)|intro(cs:List Value)|intro h));refine aS ⟨(2-(1+1):Int).toNat,ao S 75 (eL s (dF H 1 true) (dF C 1 (W[kk.toNat]'U).l) V)::gG I cs::aA As::M,by decide,rP,1+1,_,_,V,d,As,U,rfl,m,(λ_=>by rw[F 0 U,d8];exact u5 U),(λ_=>y),(λh=>by omega),(λh=>by omega),p,q,rfl,rfl⟩
  ·refine rn ?_;(repeat(first|intro(v:Value)|intro(o:O1 _)|intro(cs:List Value)|intro h));exact aS ⟨(2-(1+1):Int).toNat,_,by decide,rP,1+1,H,C,V,d,As,U,rfl,m,(λ_=>by rw[F 0 U,d8];exact u5 U),(λ_=>y),(λh=>by omega),(λh=>by omega),p,q,rfl,rfl⟩
 ·obtain⟨b,e8⟩:∃b:Ct,b=⟨s,H 0,H 1,C 0,C 1,V 0,(m 0).1,d 0,V 1,(m 1).1,d 1⟩:=⟨_,rfl⟩;rw[show eL s H C V=ab.cells b by rw[e8];rfl];have q0:=b.o0;have q1:=b.o1;refine rn ?_;(repeat(first|intro(v:Value)|intro(o:O1 _)|intro(cs:List Value)|intro h));refine aS ⟨ks.length-(i+1),gG v (cs++[b])::aA As::M,U,rP,i+1,v,cs++[b],As,U,rfl,o,by simp[u7],?_,p,(λc P=>?_),av rfl (av (aQ U) rfl),rfl⟩
  ·rw[r9]at hC⊢
   obtain⟨a1,a2,a3⟩:=hC;refine⟨?_,by simp;omega,λc P=>?_⟩
   ·rw[dA,a1,bo,u7,show i+[b].length=i+1 from rfl,da Q,dA,e8,e9];rfl
   ·rcases ct.1 P with P|P
    ·exact a3 c P
    ·simp at P;rw[P,e8];exact⟨u5 U,z8 U⟩
  ·rcases ct.1 P with P|P
   ·exact q c P
   ·simp at P;rw[P,e8];exact⟨(m 0).2,(m 1).2⟩
end
end
end Go.Proofs.YtogcfijlhpaeeaaGreat
