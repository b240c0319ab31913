/- Texts. No condition. -/
import Derived.Test.YtogcfijlhpaeeaaGreatYpag
open Go.RowKit Go.Proofs.Tryz
set_option linter.all false
set_option maxHeartbeats 32000000
namespace Go.Proofs.YtogcfijlhpaeeaaGreat
variable{k g i:Nat}{r:Int}{t ty:TypeId}{x:Operand}{L M:List aa}{v vt:Value}{f:Nat->Value}{P:Program}{A:List Ev}{R R':Value->List aa->Prop}{af:Array Edge}{gd:Option (Nat×Bool)}
section
theorem C2{l:List bQ}{v:List UInt8}(hi:i<l.length)(h:(l[i]'hi).l=v):np l v=true:=by unfold np;rw[eR];exact⟨_,bT hi,bf h⟩
theorem Di{l:List bQ}{v:List UInt8}(h:∀j (a:j<l.length),(l[j]'a).l≠v):np l v=false:=by unfold np;rw[ra];intro x hx;obtain⟨j,a,rfl⟩:=la hx;simpa using h j a
set_option maxRecDepth 20000 attribute [local irreducible] Ex aM Fn bI bJ bV fin meet ch aX bZ aP aN aI Rd aK Row ao Sub bk bP bS bN bg bR Hid bY
section
theorem wi(n m:Int)(L:List aa):Fn prog 183 #[.int .i64 n,.int .i64 m] L λv L'=>v=.bool (gW n m)/\L'=L:=by
 unfold gW;refine fo func183 ntmps183 ?_
 (repeat' (first|(refine r1 ?_;intros)|(refine fx J (λh=>?_) (λh=>?_)<;>try(exfalso;omega))|(apply fw;refine fH J J J (λh=>?_) (λh=>?_)<;>try(exfalso;omega))))
 all_goals
  refine fr ?_;exact⟨_,rB,kc (by first|(rw[Bf];omega)|(rw[bd U])),rfl⟩
theorem wT(n m:Int)(L:List aa):Fn prog 221 #[.int .i64 n,.int .i64 m] L λv L'=>v=.bool (gW n m)/\L'=L:=by
 unfold gW;refine fo func221 ntmps221 ?_
 (repeat' (first|(refine r1 ?_;intros)|(refine fx J (λh=>?_) (λh=>?_)<;>try(exfalso;omega))|(apply fw;refine fH J J J (λh=>?_) (λh=>?_)<;>try(exfalso;omega))))
 all_goals
  refine fr ?_;exact⟨_,rB,kc (by first|(rw[Bf];omega)|(rw[bd U])),rfl⟩
theorem EC(c:aJ)(L:List aa):Fn prog 119 #[.agg (ab.cells c).toArray] L λv L'=>v=.bool (gS c)/\L'=L:=by
 refine fo func119 ntmps119 ?_;refine rn ?_;intros;refine bc [] J call183 J J (wi _ _ _) ?_;rintro _ _ ⟨rfl,rfl⟩
 (repeat' (first|(refine r1 ?_;intros)|(refine fx J (λh=>?_) (λh=>?_)<;>try(exfalso;omega))|(apply fw;refine fH J J J (λh=>?_) (λh=>?_)<;>try(exfalso;omega))))
 ·skip
  refine bc [] J call183 J J (wi _ _ _) ?_;rintro _ _ ⟨rfl,rfl⟩
  (repeat' (first|(refine r1 ?_;intros)|(refine fx J (λh=>?_) (λh=>?_)<;>try(exfalso;omega))|(apply fw;refine fH J J J (λh=>?_) (λh=>?_)<;>try(exfalso;omega))))
  ·skip
   refine bc [] J call183 J J (wi _ _ _) ?_;rintro _ _ ⟨rfl,rfl⟩
   (repeat' (first|(refine r1 ?_;intros)|(refine fx J (λh=>?_) (λh=>?_)<;>try(exfalso;omega))|(apply fw;refine fH J J J (λh=>?_) (λh=>?_)<;>try(exfalso;omega))))
   ·skip
    refine bc [] J call183 J J (wi _ _ _) ?_;rintro _ _ ⟨rfl,rfl⟩
    (repeat' (first|(refine r1 ?_;intros)|(refine fx J (λh=>?_) (λh=>?_)<;>try(exfalso;omega))|(apply fw;refine fH J J J (λh=>?_) (λh=>?_)<;>try(exfalso;omega))))
    ·skip
     refine bc [] J call183 J J (wi _ _ _) ?_;rintro _ _ ⟨rfl,rfl⟩
     (repeat' (first|(refine r1 ?_;intros)|(refine fx J (λh=>?_) (λh=>?_)<;>try(exfalso;omega))|(apply fw;refine fH J J J (λh=>?_) (λh=>?_)<;>try(exfalso;omega))))
     ·skip
      refine bc [] J call183 J J (wi _ _ _) ?_;rintro _ _ ⟨rfl,rfl⟩;refine rn ?_;intros;refine fr ?_;exact⟨_,rB,kc (by unfold gS gW;simp[*]),rfl⟩
     ·refine fr ?_;exact⟨_,rB,kc (by unfold gS gW;simp[*]),rfl⟩
    ·refine fr ?_;exact⟨_,rB,kc (by unfold gS gW;simp[*]),rfl⟩
   ·refine fr ?_;exact⟨_,rB,kc (by unfold gS gW;simp[*]),rfl⟩
  ·refine fr ?_;exact⟨_,rB,kc (by unfold gS gW;simp[*]),rfl⟩
 ·refine fr ?_;exact⟨_,rB,kc (by unfold gS gW;simp[*]),rfl⟩
theorem LA(c:aJ)(L:List aa):Fn prog 156 #[.agg (ab.cells c).toArray] L λv L'=>v=.bool (gS c)/\L'=L:=by
 refine fo func156 ntmps156 ?_;refine rn ?_;intros;refine bc [] J call221 J J (wT _ _ _) ?_;rintro _ _ ⟨rfl,rfl⟩
 (repeat' (first|(refine r1 ?_;intros)|(refine fx J (λh=>?_) (λh=>?_)<;>try(exfalso;omega))|(apply fw;refine fH J J J (λh=>?_) (λh=>?_)<;>try(exfalso;omega))))
 ·skip
  refine bc [] J call221 J J (wT _ _ _) ?_;rintro _ _ ⟨rfl,rfl⟩
  (repeat' (first|(refine r1 ?_;intros)|(refine fx J (λh=>?_) (λh=>?_)<;>try(exfalso;omega))|(apply fw;refine fH J J J (λh=>?_) (λh=>?_)<;>try(exfalso;omega))))
  ·skip
   refine bc [] J call221 J J (wT _ _ _) ?_;rintro _ _ ⟨rfl,rfl⟩
   (repeat' (first|(refine r1 ?_;intros)|(refine fx J (λh=>?_) (λh=>?_)<;>try(exfalso;omega))|(apply fw;refine fH J J J (λh=>?_) (λh=>?_)<;>try(exfalso;omega))))
   ·skip
    refine bc [] J call221 J J (wT _ _ _) ?_;rintro _ _ ⟨rfl,rfl⟩
    (repeat' (first|(refine r1 ?_;intros)|(refine fx J (λh=>?_) (λh=>?_)<;>try(exfalso;omega))|(apply fw;refine fH J J J (λh=>?_) (λh=>?_)<;>try(exfalso;omega))))
    ·skip
     refine bc [] J call221 J J (wT _ _ _) ?_;rintro _ _ ⟨rfl,rfl⟩
     (repeat' (first|(refine r1 ?_;intros)|(refine fx J (λh=>?_) (λh=>?_)<;>try(exfalso;omega))|(apply fw;refine fH J J J (λh=>?_) (λh=>?_)<;>try(exfalso;omega))))
     ·skip
      refine bc [] J call221 J J (wT _ _ _) ?_;rintro _ _ ⟨rfl,rfl⟩;refine rn ?_;intros;refine fr ?_;exact⟨_,rB,kc (by unfold gS gW;simp[*]),rfl⟩
     ·refine fr ?_;exact⟨_,rB,kc (by unfold gS gW;simp[*]),rfl⟩
    ·refine fr ?_;exact⟨_,rB,kc (by unfold gS gW;simp[*]),rfl⟩
   ·refine fr ?_;exact⟨_,rB,kc (by unfold gS gW;simp[*]),rfl⟩
  ·refine fr ?_;exact⟨_,rB,kc (by unfold gS gW;simp[*]),rfl⟩
 ·refine fr ?_;exact⟨_,rB,kc (by unfold gS gW;simp[*]),rfl⟩
theorem XR(g:Nat)(a:Ct)(e:Ed)(M:List aa):Fn prog 166 #[.agg (ab.cells a).toArray,.pointer (some ⟨g,0,none⟩)] (ao g 26 (ab.cells e)::M)
  λv L'=>v=.bool (decide (a.key=e.key))/\L'=ao g 26 (ab.cells e)::M:=by
 refine fo func166 ntmps166 ?_;exact bh
theorem RV(v0:Value)(l:List Ct)(a:Nat)(e:Ed)(M:List aa)(o:aI M v0 l)(n:l.length<=1000000000):Fn prog 165 #[v0,.func (.func 166) #[] #[.pointer (some ⟨a,0,none⟩)]] (ao a 26 (ab.cells e)::M)
  λv L'=>v=.int .i64 (iK l e.key)/\L'=ao a 26 (ab.cells e)::M:=by
 refine fo func165 ntmps165 ?_;refine rn ?_;intros;refine ll [8] (λm vs=>∃i:Nat,i<=l.length/\m=l.length-i/\vs=[.int .i64 i]/\∀j (b:j<l.length),j<i->(l[j]'b).key≠e.key) l.length ⟨0,U,rfl,rfl,λj _ h=>by omega⟩ ?_;rintro m vs g ⟨i,hi,rfl,rfl,f⟩;by_cases d:i<l.length
 ·refine rn ?_;intros;refine iL [] (xs:=[.tmp 15]) (fs:=[]) (us:=[.pointer (some ⟨a,0,none⟩)]) (vs:=[.agg (ab.cells (l[i]'d)).toArray]) J J call166 rE J (XR a (l[i]'d) e _) ?_;rintro _ _ ⟨rfl,rfl⟩;by_cases c:(l[i]'d).key=e.key
  ·rw[bf c];refine rn ?_;intros;refine fr ?_;exact⟨_,rB,aQ (Hv d c f).symm,rfl⟩
  ·rw[bd c];refine rn ?_;intros;exact aS ⟨l.length-(i+1),_,U,rB,⟨i+1,U,rfl,av (aQ U) rfl,λj b k=>by
    by_cases h:j=i
    ·subst h;exact c
    ·exact f j b U⟩,rfl⟩
 ·refine rn ?_;intros;refine fr ?_;exact⟨_,rB,aQ (JD λj b=>f j b U).symm,rfl⟩
theorem WY(v0:Value)(l:List bQ)(x:List UInt8)(M:List aa)(k:aI M v0 l)(g:l.length<=9000000000000000000):Fn prog 225 #[v0,.string (S x)] M
  λv L'=>∃n:Int,v=.int .i64 n/\decide (0<=n)=np l x/\L'=M:=by
 refine fo func225 ntmps225 ?_;refine rn ?_;intros;refine ll [8] (λm vs=>∃i:Nat,i<=l.length/\m=l.length-i/\vs=[.int .i64 i]/\∀j (a:j<l.length),j<i->(l[j]'a).l≠x) l.length ⟨0,U,rfl,rfl,λj _ h=>by omega⟩ ?_;rintro m vs e ⟨i,hi,rfl,rfl,d⟩;by_cases c:i<l.length
 ·by_cases b:x=(l[i]'c).l
  ·refine rn ?_;intros;refine fr ?_;exact⟨_,rB,i,rfl,by rw[C2 c b.symm];exact bf U,rfl⟩
  ·refine rn ?_;intros;exact aS ⟨l.length-(i+1),_,U,rB,⟨i+1,U,rfl,av (aQ U) rfl,λj a f=>by
    by_cases h:j=i
    ·subst h;exactλh=>b h.symm
    ·exact d j a U⟩,rfl⟩
 ·refine rn ?_;intros;refine fr ?_;exact⟨_,rB,-1,rfl,by rw[Di λj a=>d j a U];rfl,rfl⟩
theorem Lm(v0:Value)(l:List bQ)(x:List UInt8)(M:List aa)(c:aI M v0 l)(a:l.length<=9000000000000000000):Fn prog 167 #[v0,.string (S x)] M
  λv L'=>v=.bool (np l x)/\L'=M:=by
 refine fo func167 ntmps167 ?_;refine rn ?_;intros;refine ca [] call225 (WY v0 l x _ c a) ?_;rintro _ _ ⟨n,rfl,b,rfl⟩;refine rn ?_;intros;refine fr ?_;exact⟨_,rB,kc b,rfl⟩
theorem nr(c d:Nat)(a:Int)(b:Bool)(M:List aa):mA prog 164 #[.pointer (some ⟨c,0,none⟩),.pointer (some ⟨d,0,none⟩)] (ao c 57 [.int .i64 a]::ao d 4 [.bool b]::M)
  λ_ e=>e=ao c 57 [.int .i64 (if a=0/\b=true then 15 else a)]::ao d 4 [.bool b]::M:=by
 refine mA.FG func164 rfl ntmps164 rfl ?_;by_cases h:a=0
 ·cases b
  ·rw[ai (by simp)];exact qi
  ·rw[an ⟨h,rfl⟩];exact qi
 ·rw[ai (λk=>h k.1)];exact qi
end
section
attribute [local irreducible] zr mU dz B5
theorem YH(c:aJ)(v0:Value)(l:List Ct)(e:Ed)(M:List aa)(R:aI M v0 l)(I:∀n∈l,n.Rd M)(A:l.length<=1000000000)(y:e.key.length<=9223372036854775807)(P:e.value.length<=9223372036854775807)
  (L:∀n∈l,n.s0.length<=9000000000000000000/\n.s1.length<=9000000000000000000):
  Fn prog 97 #[.agg (ab.cells c).toArray,v0,.agg (ab.cells e).toArray] M λv L'=>v=.int .i64 (nj c.l c.p l e)/\L'=M:=by
 refine Fn.UK [_,_,_] func97 rfl ntmps97 rfl J call164 ?_;refine mU.cons ?_;refine rn ?_;(repeat(first|intro(g:Nat)|intro h));refine Eu (mU.cons ?_);refine rn ?_;(repeat(first|intro(g:Nat)|intro h));refine bc [] J call163 J J (N4 e _ y P) ?_;rintro _ _ ⟨rfl,rfl⟩;by_cases k:e.err=0
 ·have w:=Ed.LO k;refine rn ?_;(repeat(first|intro(g:Nat)|intro h));refine Eu (mU.cons ?_);refine rn ?_;(repeat(first|intro(g:Nat)|intro h));rename_i Q x a
  rename Nat=>g7
  refine Eu (mU.nil (Qc (us:=[.pointer (some ⟨a,0,none⟩),.pointer (some ⟨g7,0,none⟩)]) J ?_));rw[k];have H:=Nd l e.key;refine rn ?_;intros;refine bc [2] J call165 rE J (RV v0 l x e _ rD A) ?_;rintro _ _ ⟨rfl,rfl⟩;by_cases r:e.kind=1
  ·rw[Lu k r];by_cases s:0<=iK l e.key
   ·rw[an s];refine rn ?_;intros;refine nM (nt (nA (nr a g7 13 (decide (c.l<=l.length)) _) (cW [2,1] rE rB)) ?_);rintro _ _ rfl;exact⟨_,_,rS,rB,aQ (by simp),rfl⟩
   ·rw[ai s];by_cases u:c.l<=l.length
    ·rw[an u];refine rn ?_;intros;refine nM (nt (nA (nr a g7 0 true _) (cW [2,1] rE rB)) ?_);rintro _ _ rfl;exact⟨_,_,rS,rB,aQ (by simp),rfl⟩
    ·rw[ai u];refine rn ?_;intros;refine nM (nt (nA (nr a g7 0 false _) (cW [2,1] rE rB)) ?_);rintro _ _ rfl;exact⟨_,_,rS,rB,aQ (by simp),rfl⟩
  ·by_cases s:iK l e.key<0
   ·rw[Iu k r U];refine rn ?_;intros;refine nM (nt (nA (nr a g7 14 false _) (cW [2,1] rE rB)) ?_);rintro _ _ rfl;exact⟨_,_,rS,rB,aQ (by simp),rfl⟩
   ·obtain⟨i,hi⟩:=jF (show 0<=iK l e.key by omega);have b:i<l.length:=U;rw[IL b k r hi,hi];clear H;obtain⟨S,V⟩:=I _ (bT b);obtain⟨C,F⟩:=L _ (bT b);unfold xg Ct.set;have z:e.kind=4\/e.kind=5\/(e.kind≠4/\e.kind≠5):=U;rcases z with p|q|⟨p,q⟩
    ·rw[an p];rcases w.2.2 with d|d
     ·rw[an d];obtain⟨o,t,f,j⟩:=e;obtain rfl:f=0:=d;by_cases m:c.p<=((l[i]'b).s0.length:Int)
      ·rw[an m];refine rn ?_;intros;refine mX ?_;intros;refine rn ?_;intros;refine nM (nt (nA (nr a g7 0 true _) (cW [2,1] rE rB)) ?_);rintro _ _ rfl;exact⟨_,_,rS,rB,aQ (by simp),rfl⟩
      ·rw[ai m];refine rn ?_;intros;refine mX ?_;intros;refine rn ?_;intros;refine nM (nt (nA (nr a g7 0 false _) (cW [2,1] rE rB)) ?_);rintro _ _ rfl;exact⟨_,_,rS,rB,aQ (by simp),rfl⟩
     ·rw[ai (show¬e.label=0 by omega)];obtain⟨o,t,f,j⟩:=e;obtain rfl:f=1:=d;by_cases m:c.p<=((l[i]'b).s1.length:Int)
      ·rw[an m];refine rn ?_;intros;refine mX ?_;intros;refine rn ?_;intros;refine nM (nt (nA (nr a g7 0 true _) (cW [2,1] rE rB)) ?_);rintro _ _ rfl;exact⟨_,_,rS,rB,aQ (by simp),rfl⟩
      ·rw[ai m];refine rn ?_;intros;refine mX ?_;intros;refine rn ?_;intros;refine nM (nt (nA (nr a g7 0 false _) (cW [2,1] rE rB)) ?_);rintro _ _ rfl;exact⟨_,_,rS,rB,aQ (by simp),rfl⟩
    ·rw[ai U,an q];rcases w.2.2 with d|d
     ·rw[an d];obtain⟨o,t,f,j⟩:=e;obtain rfl:f=0:=d;refine rn ?_;intros;refine mX ?_;intros;refine bX J J J ?_;refine bc [] J call167 rE J (Lm _ (l[i]'b).s0 j _ rD C) ?_;rintro _ _ ⟨rfl,rfl⟩;cases hh:np (l[i]'b).s0 j
      ·skip
       refine mw ?_;intros;refine rn ?_;intros;refine nM (nt (nA (nr a g7 16 false _) (cW [2,1] rE rB)) ?_);rintro _ _ rfl;exact⟨_,_,rS,rB,aQ (by simp),rfl⟩
      ·skip
       refine mw ?_;intros;refine rn ?_;intros;refine nM (nt (nA (nr a g7 0 false _) (cW [2,1] rE rB)) ?_);rintro _ _ rfl;exact⟨_,_,rS,rB,aQ (by simp),rfl⟩
     ·rw[ai (show¬e.label=0 by omega)];obtain⟨o,t,f,j⟩:=e;obtain rfl:f=1:=d;refine rn ?_;intros;refine mX ?_;intros;refine bX J J J ?_;refine bc [] J call167 rE J (Lm _ (l[i]'b).s1 j _ rD F) ?_;rintro _ _ ⟨rfl,rfl⟩;cases hh:np (l[i]'b).s1 j
      ·skip
       refine mw ?_;intros;refine rn ?_;intros;refine nM (nt (nA (nr a g7 16 false _) (cW [2,1] rE rB)) ?_);rintro _ _ rfl;exact⟨_,_,rS,rB,aQ (by simp),rfl⟩
      ·skip
       refine mw ?_;intros;refine rn ?_;intros;refine nM (nt (nA (nr a g7 0 false _) (cW [2,1] rE rB)) ?_);rintro _ _ rfl;exact⟨_,_,rS,rB,aQ (by simp),rfl⟩
    ·rw[ai p,ai q];refine rn ?_;intros;refine nM (nt (nA (nr a g7 0 false _) (cW [2,1] rE rB)) ?_);rintro _ _ rfl;exact⟨_,_,rS,rB,aQ (by simp),rfl⟩
 ·rw[Kv k];refine rn ?_;intros;refine VJ (ZU ?_);refine fr ?_;exact⟨_,rB,rfl,rfl⟩
end
end
section
def lX(a:Int)(l:List Ev):Prop:=∀h:0<l.length,(l[0]'h).n<=a+1/\∀j (hj:j<l.length),(l[j]'hj).n=(l[0]'h).n+j
def fresh(a:Int)(l:List Ev):List Ev:=l.filter λe=>decide (a<e.n)
open Classical in
noncomputable def jj(most a k:Int)(l:List Ev):Int×List Ev:=
 if¬lX a l then(20,[])else if fresh a l≠[]/\most<k+(fresh a l).length then(21,[])else(0,fresh a l)
theorem Bi{most k:Int}{l:List Ev}(h:¬lX r l):jj most r k l=(20,[]):=by unfold jj;rw[an h]
theorem Lq{most k:Int}{l:List Ev}(h:lX r l)(a:fresh r l≠[])(b:most<k+(fresh r l).length):jj most r k l=(21,[]):=by unfold jj;rw[ai (by simpa using h),an ⟨a,b⟩]
theorem B2{most k:Int}{l:List Ev}(h:lX r l)(c:fresh r l=[]\/k+(fresh r l).length<=most):jj most r k l=(0,fresh r l):=by unfold jj;rw[ai (by simpa using h),ai (by rintro⟨a,b⟩;rcases c with c|c;exact a c;omega)]
theorem KD{l:List Ev}(h:lX r l)(j:Nat)(m:j<=l.length)(k:∀i (hi:i<l.length),i<j->(l[i]'hi).n<=r)(c:j=l.length\/∃h:j<l.length,r<(l[j]'h).n):fresh r l=l.drop j:=by
 unfold fresh;have e:l=l.take j++l.drop j:=(mi j l).symm;have d:(l.take j).filter (λe=>decide (r<e.n))=[]:=by rw[List.filter_eq_nil_iff];intro a b;obtain⟨i,hi,rfl⟩:=la b;simp only[dy]at hi;rw[List.getElem_take];have:=k i U U;simp;omega
 have f:(l.drop j).filter (λe=>decide (r<e.n))=l.drop j:=by
  rw[List.filter_eq_self];intro a b;obtain⟨i,hi,rfl⟩:=la b;simp only[ew]at hi;rcases c with rfl|⟨g,c⟩
  ·omega
  ·rw[yi];have:=(h U).2;rw[this _ U];rw[this _ g]at c;simp;omega
 conv=>lhs;rw[e,lD,d,lG,f]
end
section
@[reducible] def kL(g:Nat)(most base:Int)(v:Value):aa:=ao g 319 [.int .i64 most,.int .i64 base,v]
@[reducible] def mN(g:Nat)(most a:Int)(v:Value):aa:=ao g 304 [.int .i64 most,.int .i64 a,v]
set_option maxRecDepth 20000 attribute [local irreducible] Ex aM Fn bI bJ bV fin meet ch aX bZ aP aN aI Rd aK Row ao Sub bk bP bS bN bg bR Hid bY
section
theorem QR(most:Int)(L:List aa):Fn prog 189 #[.int .i64 most] L λv L'=>∃g,v=.pointer (some ⟨g,0,none⟩)/\L'=kL g most 0 (.slice none 0 0)::aL (.slice none 0 0) []::L:=by refine fo func189 ntmps189 ?_;refine rn ?_;intros;refine fr ?_;exact⟨_,bl _ (cA none _ _),_,rfl,rfl⟩
theorem tI(g:Nat)(most base:Int)(v:Value)(a:List Ev)(M:List aa)(b:0<=base/\base<=1000000000000)(c:a.length<=1000000000000):Fn prog 160 #[.pointer (some ⟨g,0,none⟩)] (kL g most base v::aL v a::M)
  λr L'=>r=.int .i64 (base+a.length)/\L'=kL g most base v::aL v a::M:=by
 refine fo func160 ntmps160 ?_;refine rn ?_;intros;refine ji ?_;intros;exact bh
theorem OD(g:Nat)(most base:Int)(v:Value)(a:List Ev)(M:List aa):Fn prog 159 #[.pointer (some ⟨g,0,none⟩)] (kL g most base v::aL v a::M)
  λr L'=>r=.int .i64 base/\L'=kL g most base v::aL v a::M:=by
 refine fo func159 ntmps159 ?_;exact bh
theorem SN(g:Nat)(most base n:Int)(v0:Value)(a:List Ev)(M:List aa)(c:0<=base/\base<=1000000000000)(i:a.length<=10000000000):Fn prog 249 #[.pointer (some ⟨g,0,none⟩),.int .i64 n] (kL g most base v0::aL v0 a::M)
  λr L'=>∃b,O1 b/\L'=kL g most (max base (min n (base+a.length))) b::aL b (a.drop ((max base (min n (base+a.length)))-base).toNat)::M:=by
 refine fo func249 ntmps249 ?_;refine rn ?_;(repeat(first|intro(g:Nat)|intro(v:Value)|intro(o:O1 _)|intro(zs:List _)|intro h));refine oE ?_;(repeat(first|intro(g:Nat)|intro(v:Value)|intro(o:O1 _)|intro(zs:List _)|intro h));refine bX J J J ?_;refine ca [] call160 (tI _ _ _ _ _ _ c U) ?_;rintro _ _ ⟨rfl,rfl⟩;refine bn ?_;refine br rF ?_;refine mn ?_;(repeat(first|intro(g:Nat)|intro(v:Value)|intro(o:O1 _)|intro(zs:List _)|intro h));obtain⟨B,d⟩:∃B,B=max base (min n (base+(a.length:Int))):=⟨_,rfl⟩;rw[<-d];have f:base<=B/\B<=base+a.length:=U;refine rn ?_;(repeat(first|intro(g:Nat)|intro(v:Value)|intro(o:O1 _)|intro(zs:List _)|intro h));refine ca [] call160 (tI _ _ _ _ _ _ c U) ?_;rintro _ _ ⟨rfl,rfl⟩;refine rn ?_;(repeat(first|intro(g:Nat)|intro(v:Value)|intro(o:O1 _)|intro(zs:List _)|intro h));refine bU 13 (kL g most base v0::aL v0 a::M) rfl rQ rF ?_;refine mn ?_;(repeat(first|intro(v:Value)|intro(o:O1 _)|intro(zs:List _)|intro h));refine rn ?_;(repeat(first|intro(v:Value)|intro(o:O1 _)|intro(zs:List _)|intro h));refine fr ?_;have e:zs=a.drop (B-base).toNat:=h.trans (Qa (by simp only[ju,ew];omega));subst e;exact⟨_,ar rB (iT [1] _),v,o,rfl⟩
theorem Yz(g:Nat)(most base:Int)(v0 u:Value)(a l:List Ev)(M:List aa)(hu:aI M u l)(hi:∀e∈l,cD e.n)(hb:0<=base/\base<=1000000000)(hk:a.length<=1000000000)(hl:l.length<=100000000)(y:O1 v0):
  Fn prog 191 #[.pointer (some ⟨g,0,none⟩),u] (kL g most base v0::aL v0 a::M)
  λr L'=>r=.int .i64 (jj most (base+a.length) a.length l).1/\∃P,O1 P/\L'=kL g most base P::aL P (a++(jj most (base+a.length) a.length l).2)::M:=by
 refine fo func191 ntmps191 ?_;refine rn ?_;(repeat(first|intro(g:Nat)|intro(v:Value)|intro(o:O1 _)|intro(zs:List _)|intro h));obtain⟨b,p⟩:∃b,b=base+(a.length:Int):=⟨_,rfl⟩;rw[<-p];refine bm [11] (λm vs L'=>∃(i:Nat),i<=l.length/\m=l.length-i/\vs=[.int .i64 i]/\L'=kL g most base v0::aL v0 a::M/\(∀h:0<i,∃f:i<=l.length,(l[0]'U).n<=b+1/\∀j (d:j<i),(l[j]'U).n=(l[0]'U).n+j)) l.length ⟨0,U,U,rfl,rfl,λh=>by omega⟩ ?_;rintro m vs g1 L' ⟨i,j8,rfl,rfl,rfl,A⟩;by_cases q:i<l.length
 ·have hI:=hi _ (bT q);unfold cD at hI;by_cases hz:i=0
  ·subst hz;by_cases z:(l[0]'q).n<=b+1
   ·refine rn ?_;(repeat(first|intro(g:Nat)|intro(v:Value)|intro(o:O1 _)|intro(zs:List _)|intro h));refine fh [2,2] rE ?_;refine Bn ?_;(repeat(first|intro(g:Nat)|intro(v:Value)|intro(o:O1 _)|intro(zs:List _)|intro h));refine bX J J J ?_;refine ca [] call160 (tI _ _ _ _ _ _ U U) ?_;rintro _ _ ⟨rfl,rfl⟩;rw[<-p];refine bn ?_;refine br rF ?_;refine mn ?_;(repeat(first|intro(g:Nat)|intro(v:Value)|intro(o:O1 _)|intro(zs:List _)|intro h));refine rn ?_;(repeat(first|intro(g:Nat)|intro(v:Value)|intro(o:O1 _)|intro(zs:List _)|intro h));exact aS ⟨l.length-1,_,U,rB,1,U,rfl,av (aQ U) rfl,rfl,λ_=>⟨U,z,λj d=>by obtain rfl:j=0:=U;simp⟩⟩
   ·refine rn ?_;(repeat(first|intro(g:Nat)|intro(v:Value)|intro(o:O1 _)|intro(zs:List _)|intro h));refine fh [2,2] rE ?_;refine Bn ?_;(repeat(first|intro(g:Nat)|intro(v:Value)|intro(o:O1 _)|intro(zs:List _)|intro h));refine bX J J J ?_;refine ca [] call160 (tI _ _ _ _ _ _ U U) ?_;rintro _ _ ⟨rfl,rfl⟩;rw[<-p];refine bn ?_;refine br rF ?_;refine mn ?_;(repeat(first|intro(g:Nat)|intro(v:Value)|intro(o:O1 _)|intro(zs:List _)|intro h));refine rn ?_;(repeat(first|intro(g:Nat)|intro(v:Value)|intro(o:O1 _)|intro(zs:List _)|intro h));have C:¬lX b l:=λh=>z (h q).1;rw[Bi C,ck];refine fr ?_;exact⟨_,rB,rfl,v0,y,rfl⟩
  ·obtain⟨_,c9,S⟩:=A U;have c8:=hi _ (bT (show 0<l.length by omega));unfold cD at c8;have hp:=S ((i:Int)-1).toNat U;by_cases z:(l[i]'q).n=(l[((i:Int)-1).toNat]'U).n+1
   ·refine rn ?_;(repeat(first|intro(g:Nat)|intro(v:Value)|intro(o:O1 _)|intro(zs:List _)|intro h));refine Bn ?_;(repeat(first|intro(g:Nat)|intro(v:Value)|intro(o:O1 _)|intro(zs:List _)|intro h));refine rn ?_;(repeat(first|intro(g:Nat)|intro(v:Value)|intro(o:O1 _)|intro(zs:List _)|intro h));exact aS ⟨l.length-(i+1),_,U,rB,i+1,U,rfl,av (aQ U) rfl,rfl,λ_=>⟨U,c9,λj d=>by
     by_cases d6:j<i
     ·exact S j d6
     ·obtain rfl:j=i:=U;omega⟩⟩
   ·refine rn ?_;(repeat(first|intro(g:Nat)|intro(v:Value)|intro(o:O1 _)|intro(zs:List _)|intro h));refine Bn ?_;(repeat(first|intro(g:Nat)|intro(v:Value)|intro(o:O1 _)|intro(zs:List _)|intro h));refine rn ?_;(repeat(first|intro(g:Nat)|intro(v:Value)|intro(o:O1 _)|intro(zs:List _)|intro h));have C:¬lX b l:=λh=>by have f:=(h U).2 i q;omega
    rw[Bi C,ck];refine fr ?_;exact⟨_,rB,rfl,v0,y,rfl⟩
 have s:lX b l:=λh=>by obtain⟨_,t,f⟩:=A U;exact⟨t,λj d=>f j U⟩
 clear A;refine rn ?_;(repeat(first|intro(g:Nat)|intro(v:Value)|intro(o:O1 _)|intro(zs:List _)|intro h));refine bm [1] (λm vs L'=>∃(j:Nat) (L:Value),j<=l.length/\m=l.length-j/\vs=[L]/\aI M L (l.drop j)/\L'=kL g most base v0::aL v0 a::M/\(∀i (hi:i<l.length),i<j->(l[i]'hi).n<=b)) l.length ⟨0,u,U,U,rfl,hu,rfl,λi hi h=>by omega⟩ ?_;rintro m vs g2 L' ⟨j,L,d,rfl,rfl,H,rfl,F⟩;have w:(l.drop j).length=l.length-j:=ew;by_cases x:j<l.length
 ·have R:((l.drop j)[0]'U).n=(l[j]'x).n:=by simp
  by_cases d7:(l[j]'x).n<=b
  ·refine rn ?_;(repeat(first|intro(v:Value)|intro(o:O1 _)|intro(zs:List _)|intro h));refine mX ?_;(repeat(first|intro(v:Value)|intro(o:O1 _)|intro(zs:List _)|intro h));refine bX J J J ?_;refine ca [] call160 (tI _ _ _ _ _ _ U U) ?_;rintro _ _ ⟨rfl,rfl⟩;rw[<-p];refine bn ?_;refine br rF ?_;refine mn ?_;(repeat(first|intro(v:Value)|intro(o:O1 _)|intro(zs:List _)|intro h));refine rn ?_;(repeat(first|intro(v:Value)|intro(o:O1 _)|intro(zs:List _)|intro h));refine aS ⟨l.length-(j+1),_,U,bW _,j+1,_,U,rfl,rfl,?_,rfl,λi hi h=>?_⟩
   ·have t:=ni H (l:=1) U (sz:=12) (k:=(l.drop j).length) rfl rfl;rw[mO]at t;exact t
   ·by_cases f:i<j
    ·exact F i hi f
    ·obtain rfl:i=j:=U;exact d7
  ·have c:=KD s j d F (.inr ⟨x,U⟩);have d8:fresh b l≠[]:=by rw[c];intro h;rw[h]at w;simp at w;omega
   have j7:((fresh b l)[0]'(by rw[c,w];omega)).n=(l[j]'x).n:=by simp only[c];exact R
   rw[<-c]at H w;clear R;refine rn ?_;(repeat(first|intro(v:Value)|intro(o:O1 _)|intro(zs:List _)|intro h));refine mX ?_;(repeat(first|intro(v:Value)|intro(o:O1 _)|intro(zs:List _)|intro h));refine bX J J J ?_;refine ca [] call160 (tI _ _ _ _ _ _ U U) ?_;rintro _ _ ⟨rfl,rfl⟩;rw[<-p];refine bn ?_;refine br rF ?_;refine mn ?_;(repeat(first|intro(v:Value)|intro(o:O1 _)|intro(zs:List _)|intro h));by_cases hw:most<(a.length:Int)+(fresh b l).length
   ·rw[Lq s d8 hw,ck];refine rn ?_;(repeat(first|intro(v:Value)|intro(o:O1 _)|intro(zs:List _)|intro h));refine fr ?_;exact⟨_,rB,rfl,v0,y,rfl⟩
   ·rw[B2 s (.inr U)];refine rn ?_;(repeat(first|intro(v:Value)|intro(o:O1 _)|intro(zs:List _)|intro h));have I:=h.trans (Yt (by simp only[ju];omega));have j3:zs.length=((a.length:Int)+(fresh b l).length).toNat:=by rw[I];simp only[bo,ew,ju];omega
    clear h;obtain⟨Q,V⟩:∃Q,Q=zs:=⟨_,rfl⟩;rw[<-V]at I j3⊢
    clear V zs;refine rn ?_;(repeat(first|intro(v:Value)|intro(o:O1 _)|intro(zs:List _)|intro h));have j1:zs=a++fresh b l:=by
     have W:Q.take a.length=a:=by rw[I];exact jL
     rw[h,dc,W,ic U,pk U,ck]
    subst j1;refine fr ?_;exact⟨_,ar rB (iT [1] _),rfl,v,o,rfl⟩
 ·have c:=KD s j d F (.inl U);have d9:l.drop j=[]:=dZ U;rw[d9]at H c;rw[B2 s (.inl c),c,ck];refine rn ?_;intros;refine mX ?_;intros;refine rn ?_;intros;refine fr ?_;exact⟨_,rB,rfl,v0,y,rfl⟩
end
section
def eT(n:Int)(l:List Ev):List Ev:=l.filter λe=>decide (n<e.n)
theorem AP(n:Int)(l:List Ev)(i:Nat)(h:i<l.length):eT n (l.take (i+1))=if n<(l[i]'h).n then eT n (l.take i)++[l[i]'h]else eT n (l.take i):=by unfold eT;rw[da h,lD];split<;>rename_i a<;>simp[a]
theorem uw(n:Int)(l:List Ev):(eT n l).length<=l.length:=jJ _ _
theorem Sw(b:Nat)(most base n:Int)(v0:Value)(a:List Ev)(M:List aa)(g:a.length<=1000000000)(k:O1 v0):Fn prog 252 #[.pointer (some ⟨b,0,none⟩),.int .i64 n] (kL b most base v0::aL v0 a::M)
  λr L'=>O1 r/\L'=kL b most base v0::aL v0 a::aL r (eT n a)::M:=by
 refine fo func252 ntmps252 ?_;refine bF ?_ (bl _ (bl _ (cA (α:=Ev) none 80 M)));refine rn ?_;(repeat(first|intro(v:Value)|intro h));refine bm [5,13] (λm vs L'=>∃(i:Nat) (r:Value),i<=a.length/\m=a.length-i/\r.oneCell'=true/\vs=[r,.int .i64 i]/\L'=kL b most base v0::aL v0 a::aL r (eT n (a.take i))::M) a.length ⟨0,_,U,U,rfl,rfl,rfl⟩ ?_;rintro m vs f L' ⟨i,r,hi,rfl,j,rfl,rfl⟩;have e:=uw n (a.take i);simp only[dy]at e;by_cases c:i<a.length
 ·by_cases d:n<(a[i]'c).n
  ·refine rn ?_;(repeat(first|intro(v:Value)|intro h));refine aS ⟨a.length-(i+1),kL b most base v0::aL v0 a::aL v (eT n (a.take (i+1)))::M,U,?_,i+1,v,U,rfl,by assumption,av rfl (av (aQ U) rfl),rfl⟩;rw[AP _ _ _ c,an d];exact rB
  ·refine rn ?_;intros;refine aS ⟨a.length-(i+1),kL b most base v0::aL v0 a::aL r (eT n (a.take (i+1)))::M,U,?_,i+1,r,U,rfl,by assumption,av rfl (av (aQ U) rfl),rfl⟩;rw[AP _ _ _ c,ai d];exact rB
 ·obtain rfl:i=a.length:=U;rw[dI]at*
  exact yl
theorem OM(b:Nat)(most c n:Int)(v0:Value)(a:List Ev)(M:List aa)(d:a.length<=10000000000):Fn prog 293 #[.pointer (some ⟨b,0,none⟩),.int .i64 n] (mN b most c v0::aL v0 a::M)
  λr L'=>L'=mN b most (max c (min n a.length)) v0::aL v0 a::M:=by
 refine fo func293 ntmps293 ?_;refine rn ?_;intros;refine tR ?_;intros;exact qi
theorem Hw(n:Int)(l:List Ev)(c i:Nat)(h:i<l.length)(a:c<=i):eT n ((l.take (i+1)).drop c)=if n<(l[i]'h).n then eT n ((l.take i).drop c)++[l[i]'h]else eT n ((l.take i).drop c):=by unfold eT;rw[da h,Am (by simp;omega),lD];split<;>rename_i a<;>simp[a]
theorem Yf(b:Nat)(most n:Int)(c:Nat)(v0:Value)(a:List Ev)(M:List aa)(o:a.length<=1000000000)(l:c<=a.length)(q:O1 v0):Fn prog 261 #[.pointer (some ⟨b,0,none⟩),.int .i64 n] (mN b most c v0::aL v0 a::M)
  λr L'=>O1 r/\L'=mN b most c v0::aL v0 a::aL r (eT n (a.drop c))::M:=by
 refine fo func261 ntmps261 ?_;refine rn ?_;(repeat(first|intro(g:Nat)|intro(v:Value)|intro h));refine bF ?_ (bl _ (bl _ (cA (α:=Ev) (some ⟨g,0,none⟩) 80 M)));refine bm [5,6] (λm vs L'=>∃(i:Nat) (r:Value),c<=i/\i<=a.length/\m=a.length-i/\r.oneCell'=true/\vs=[r,.int .i64 i]/\L'=mN b most c v0::aL v0 a::aL r (eT n ((a.take i).drop c))::M) (a.length-c) ⟨c,_,U,U,rfl,rfl,rfl,by rw[pk (by simp;omega)];rfl⟩ ?_;rintro m vs k L' ⟨i,r,e,hi,rfl,p,rfl,rfl⟩;have j:=uw n ((a.take i).drop c);simp only[dy,ew]at j;by_cases d:i<a.length
 ·by_cases f:n<(a[i]'d).n
  ·refine rn ?_;(repeat(first|intro(v:Value)|intro h));refine aS ⟨a.length-(i+1),mN b most c v0::aL v0 a::aL v (eT n ((a.take (i+1)).drop c))::M,U,?_,i+1,v,U,U,rfl,by assumption,av rfl (av (aQ U) rfl),rfl⟩;rw[Hw _ _ _ _ d e,an f];exact rB
  ·refine rn ?_;intros;refine aS ⟨a.length-(i+1),mN b most c v0::aL v0 a::aL r (eT n ((a.take (i+1)).drop c))::M,U,?_,i+1,r,U,U,rfl,by assumption,av rfl (av (aQ U) rfl),rfl⟩;rw[Hw _ _ _ _ d e,ai f];exact rB
 ·obtain rfl:i=a.length:=U;rw[dI]at*
  exact yl
theorem WI(f:Nat)(most:Int)(c:Nat)(v0 u:Value)(b l:List Ev)(M:List aa)(hu:aI M u l)(hi:∀e∈l,cD e.n)(hk:b.length<=1000000000)(hc:c<=b.length)(hl:l.length<=100000000)(k:O1 v0):
  Fn prog 259 #[.pointer (some ⟨f,0,none⟩),u] (mN f most c v0::aL v0 b::M)
  λr L'=>r=.int .i64 (jj most b.length (b.length-c) l).1/\∃z,O1 z/\L'=mN f most c z::aL z (b++(jj most b.length (b.length-c) l).2)::M:=by
 refine fo func259 ntmps259 ?_;refine rn ?_;(repeat(first|intro(g:Nat)|intro(v:Value)|intro h));obtain⟨a,S⟩:∃a,a=(b.length:Int):=⟨_,rfl⟩;rw[<-S];refine bm [6] (λm vs L'=>∃(i:Nat),i<=l.length/\m=l.length-i/\vs=[.int .i64 i]/\L'=mN f most c v0::aL v0 b::M/\(∀h:0<i,∃p:i<=l.length,(l[0]'U).n<=a+1/\∀j (t:j<i),(l[j]'U).n=(l[0]'U).n+j)) l.length ⟨0,U,U,rfl,rfl,λh=>by omega⟩ ?_;rintro m vs g1 L' ⟨i,d7,rfl,rfl,rfl,s⟩;by_cases d:i<l.length
 ·have I:=hi _ (bT d);unfold cD at I;by_cases y:i=0
  ·subst y;by_cases q:(l[0]'d).n<=a+1
   ·refine rn ?_;(repeat(first|intro(g:Nat)|intro(v:Value)|intro h));refine wE ?_;(repeat(first|intro(g:Nat)|intro(v:Value)|intro h));refine rn ?_;(repeat(first|intro(g:Nat)|intro(v:Value)|intro h));exact aS ⟨l.length-1,_,U,rB,1,U,rfl,av (aQ U) rfl,rfl,λ_=>⟨U,q,λj t=>by obtain rfl:j=0:=U;simp⟩⟩
   ·refine rn ?_;(repeat(first|intro(g:Nat)|intro(v:Value)|intro h));refine wE ?_;(repeat(first|intro(g:Nat)|intro(v:Value)|intro h));refine rn ?_;(repeat(first|intro(g:Nat)|intro(v:Value)|intro h));have w:¬lX a l:=λh=>q (h d).1;rw[Bi w,ck];refine fr ?_;exact⟨_,rB,rfl,v0,k,rfl⟩
  ·obtain⟨_,Q,A⟩:=s U;have L:=hi _ (bT (show 0<l.length by omega));unfold cD at L;have hp:=A ((i:Int)-1).toNat U;by_cases q:(l[i]'d).n=(l[((i:Int)-1).toNat]'U).n+1
   ·refine rn ?_;(repeat(first|intro(g:Nat)|intro(v:Value)|intro h));refine wE ?_;(repeat(first|intro(g:Nat)|intro(v:Value)|intro h));refine rn ?_;(repeat(first|intro(g:Nat)|intro(v:Value)|intro h));exact aS ⟨l.length-(i+1),_,U,rB,i+1,U,rfl,av (aQ U) rfl,rfl,λ_=>⟨U,Q,λj t=>by
     by_cases R:j<i
     ·exact A j R
     ·obtain rfl:j=i:=U;omega⟩⟩
   ·have w:¬lX a l:=λh=>by have p:=(h U).2 i d;omega
    rw[Bi w,ck];by_cases e8:(l[i]'d).n<(l[((i:Int)-1).toNat]'U).n
    ·refine rn ?_;(repeat(first|intro(g:Nat)|intro(v:Value)|intro h));refine wE ?_;(repeat(first|intro(g:Nat)|intro(v:Value)|intro h));refine rn ?_;(repeat(first|intro(g:Nat)|intro(v:Value)|intro h));refine fr ?_;exact⟨_,rB,rfl,v0,k,rfl⟩
    ·by_cases V:(l[i]'d).n=-9223372036854775808
     ·have W:IntKind.i64.wrap ((l[i]'d).n-1)=9223372036854775807:=by rw[V];decide
      refine rn ?_;(repeat(first|intro(g:Nat)|intro(v:Value)|intro h));refine wE ?_;(repeat(first|intro(g:Nat)|intro(v:Value)|intro h));refine rn ?_;(repeat(first|intro(g:Nat)|intro(v:Value)|intro h));refine fr ?_;exact⟨_,rB,rfl,v0,k,rfl⟩
     ·refine rn ?_;(repeat(first|intro(g:Nat)|intro(v:Value)|intro h));refine wE ?_;(repeat(first|intro(g:Nat)|intro(v:Value)|intro h));refine rn ?_;(repeat(first|intro(g:Nat)|intro(v:Value)|intro h));refine fr ?_;exact⟨_,rB,rfl,v0,k,rfl⟩
 have x:lX a l:=λh=>by obtain⟨_,H,p⟩:=s U;exact⟨H,λj t=>p j U⟩
 clear s;refine rn ?_;(repeat(first|intro(g:Nat)|intro(v:Value)|intro h));refine bF ?_ (bl _ (bl _ (cA (α:=Ev) (some ⟨g,0,none⟩) 80 M)));refine bm [7,8] (λm vs L'=>∃(i:Nat) (r:Value),i<=l.length/\m=l.length-i/\r.oneCell'=true/\vs=[r,.int .i64 i]/\L'=mN f most c v0::aL v0 b::aL r (eT a (l.take i))::M) l.length ⟨0,_,U,U,rfl,rfl,rfl⟩ ?_;rintro m vs g2 L' ⟨i,r,d6,rfl,ho,rfl,rfl⟩;have C:=uw a (l.take i);simp only[dy]at C;by_cases d:i<l.length
 ·by_cases F:a<(l[i]'d).n
  ·refine rn ?_;(repeat(first|intro(v:Value)|intro h));refine aS ⟨l.length-(i+1),mN f most c v0::aL v0 b::aL v (eT a (l.take (i+1)))::M,U,?_,i+1,v,U,rfl,by assumption,av rfl (av (aQ U) rfl),rfl⟩;rw[AP _ _ _ d,an F];exact rB
  ·refine rn ?_;(repeat(first|intro(v:Value)|intro h));refine aS ⟨l.length-(i+1),mN f most c v0::aL v0 b::aL r (eT a (l.take (i+1)))::M,U,?_,i+1,r,U,rfl,by assumption,av rfl (av (aQ U) rfl),rfl⟩;rw[AP _ _ _ d,ai F];exact rB
 ·obtain rfl:i=l.length:=U;rw[dI]at*
  have P:eT a l=fresh a l:=rfl;rw[P]at C⊢
  by_cases o:fresh a l=[]
  ·rw[B2 x (.inl o)];have y:(fresh a l).length=0:=by rw[o];rfl
   refine rn ?_;(repeat(first|intro(v:Value)|intro h));refine nP ?_;(repeat(first|intro(v:Value)|intro h));refine rn ?_;(repeat(first|intro(v:Value)|intro h));refine fr ?_;exact⟨_,rB,rfl,v,by assumption,rfl⟩
  ·have y:0<(fresh a l).length:=wI.2 o;by_cases W:most<((b.length-c:Nat):Int)+(fresh a l).length
   ·rw[Lq x o U,ck];refine rn ?_;(repeat(first|intro(v:Value)|intro h));refine nP ?_;(repeat(first|intro(v:Value)|intro h));refine rn ?_;(repeat(first|intro(v:Value)|intro h));refine fr ?_;exact⟨_,rB,rfl,v0,k,rfl⟩
   ·rw[B2 x (.inr U)];refine rn ?_;(repeat(first|intro(v:Value)|intro h));refine nP ?_;(repeat(first|intro(v:Value)|intro h));refine rn ?_;(repeat(first|intro(v:Value)|intro h));refine fr ?_;exact⟨_,rB,rfl,v,by assumption,rfl⟩
end
end
section
structure Sf where
 all:List Ev
 cut:Nat
noncomputable def Sf.put(most:Int)(s:Sf)(l:List Ev):Int×Sf:=((jj most s.all.length (s.all.length-s.cut:Nat) l).1,⟨s.all++(jj most s.all.length (s.all.length-s.cut:Nat) l).2,s.cut⟩)
def Sf.to(s:Sf)(n:Int):Sf:=⟨s.all,(max (s.cut:Int) (min n s.all.length)).toNat⟩
def Sf.Ok(s:Sf):Prop:=s.cut<=s.all.length
theorem Sf.Ck{s:Sf}(h:s.Ok)(n:Int):(s.to n).Ok:=by
 unfold Sf.Ok Sf.to at*
 simp only;omega
def fk(told:List aj)(s:Nat):Int:=(told.map (·.get s)).foldl min ((told.headD aj.zero).get s)
structure aR where
 told:List aj
 sf:List Sf
def Sf.none:Sf:=⟨[],0⟩
def aR.cutAt(st:aR)(s:Nat):aR:=⟨st.told,st.sf.set s ((st.sf.getD s Sf.none).to (fk st.told s))⟩
def aR.eP(st:aR):Nat->aR
 |0=>st
 |k+1=>(st.eP k).cutAt k
theorem aR.zN(st:aR):∀k,(st.eP k).told=st.told
 |0=>rfl
 |k+1=>aR.zN st k
theorem aR.uR(st:aR):∀k,(st.eP k).sf.length=st.sf.length
 |0=>rfl
 |k+1=>by show((st.eP k).sf.set _ _).length=_;rw[iw,aR.uR st k]
def aR.has(st:aR)(r:Int):Prop:=0<=r/\r<st.sf.length
instance(st:aR)(r:Int):Decidable (st.has r):=by unfold aR.has;exact inferInstance
open Classical in
noncomputable def aR.push(most:Int)(st:aR)(r:Int)(l:List Ev):Int×Int×aR:=
 if¬st.has r\/∃e∈l,e.r≠r then(0,23,st)else
 let p:=(st.sf.getD r.toNat Sf.none).put most l
 if p.1≠0 then(0,p.1,st)else(p.2.all.length,0,(⟨st.told,st.sf.set r.toNat p.2⟩:aR).cutAt r.toNat)
def aR.bK(st:aR)(r:Int)(c:aj):Int×aR:=
 if¬st.has r then(23,st)else(0,(⟨st.told.set r.toNat ((st.told.getD r.toNat aj.zero).join c),st.sf⟩:aR).eP st.sf.length)
def aR.mV(st:aR)(r:Int)(c:aj):Nat->List Ev
 |0=>[]
 |k+1=>if(k:Int)≠r then st.mV r c k++eT (c.get k) ((st.sf.getD k Sf.none).all.drop (st.sf.getD k Sf.none).cut)else st.mV r c k
def aR.dP(st:aR)(r:Int)(c:aj):List Ev×Int:=if¬st.has r then([],23)else(st.mV r c st.sf.length,0)
structure Hs where
 base:aj
 len:aj
 a0:aj
 a1:aj
 a2:aj
 a3:aj
 a4:aj
deriving DecidableEq
def eF(f:Nat->Int):aj:=⟨f 0,f 1,f 2,f 3,f 4⟩
theorem KP(f:Nat->Int)(i:Nat)(h:i<5):(eF f).get i=f i:=by
 match i,h with
 |0,_=>rfl
 |1,_=>rfl
 |2,_=>rfl
 |3,_=>rfl
 |4,_=>rfl
def aR.qV(st:aR)(i:Nat):Int:=if i<st.sf.length then((st.sf.getD i Sf.none).cut:Int)else 0
def aR.iX(st:aR)(i:Nat):Int:=if i<st.sf.length then((st.sf.getD i Sf.none).all.length:Int)else 0
def aR.site(st:aR):Hs:=⟨eF st.qV,eF st.iX,st.told.getD 0 aj.zero,st.told.getD 1 aj.zero,st.told.getD 2 aj.zero,st.told.getD 3 aj.zero,st.told.getD 4 aj.zero⟩
instance:ab Hs:=⟨36,λh=>.bool true::(ab.cells h.base++ab.cells h.len++ab.cells h.a0++ab.cells h.a1++ab.cells h.a2++ab.cells h.a3++ab.cells h.a4),by decide,λ_=>rfl,λ_=>rfl⟩
structure Sh where
 g:Nat
 v:Value
 one:v.oneCell'=true
 sf:Sf
@[reducible] def jY(most:Int)(s:Sh):aa:=kL s.g most s.sf.cut s.v
@[reducible] def kr(s:Sh):aa:=aL s.v (s.sf.all.drop s.sf.cut)
@[reducible] def kj(most:Int)(s:Sh):aa:=mN s.g most s.sf.cut s.v
@[reducible] def kK(s:Sh):aa:=aL s.v s.sf.all
def eY(B C:Sh->aa)(ss:List Sh):aa:=aA (ss.map λs=>jf (B s) (C s))
def mh(B C:Sh->aa)(ss:List Sh)(i:Nat):aa:=aA ((ss.map λs=>jf (B s) (C s)).eraseIdx i)
theorem eY.focus{B C:Sh->aa}{ss:List Sh}(L:List aa)(h:i<ss.length):Sub (B (ss[i]'h)::C (ss[i]'h)::mh B C ss i::L) (eY B C ss::L):=
 ar (vR _ _ _) (qA (As:=ss.map λs=>jf (B s) (C s)) (i:=i) L (by simp[h]))
theorem eY.qt{B C:Sh->aa}{ss:List Sh}{i:Nat}(x:Sh)(L:List aa)(h:i<ss.length):Sub (eY B C (ss.set i x)::L) (B x::C x::mh B C ss i::L):=by have a:=aA.qt (As:=ss.map λs=>jf (B s) (C s)) (i:=i) (jf (B x) (C x)) L (by simpa using h);unfold eY;rw[oC];exact ar a (qn _ _ _)
theorem eY.last{B C:Sh->aa}{ss:List Sh}(x:Sh)(L:List aa):Sub (eY B C (ss++[x])::L) (B x::C x::eY B C ss::L):=by unfold eY;rw[dA];exact ar (so (As:=ss.map λs=>jf (B s) (C s)) (jf (B x) (C x)) L) (qn _ _ _)
theorem eY.nil{B C:Sh->aa}(L:List aa):Sub (eY B C []::L) L:=ly L
end
section
@[reducible] def Po(g:Nat)(vs vt:Value):aa:=ao g 244 [vs,vt]
@[reducible] def dG(vs:Value)(ss:List Sh):aa:=aK vs 240 (ss.map λs=>Ptr.mk s.g)
@[reducible] def Told(vt:Value)(told:List aj):aa:=aK vt 50 told
@[reducible] def fm(most:Int)(ss:List Sh):aa:=eY (jY most) kr ss
@[reducible] def ry(most:Int)(ss:List Sh)(i:Nat):aa:=mh (jY most) kr ss i
theorem sR(k:aj)(i:Nat):[k.a,k.b,k.c,k.d,k.e].getD i 0=k.get i:=by
 match i with
 |0=>rfl
 |1=>rfl
 |2=>rfl
 |3=>rfl
 |4=>rfl
 |i+5=>simp[aj.get]
theorem HF(c:aj)(q:Nat)(a:q<5):(ab.cells c)[q]?=some (.int .i64 (c.get q)):=by
 match q,a with
 |0,_=>rfl
 |1,_=>rfl
 |2,_=>rfl
 |3,_=>rfl
 |4,_=>rfl
theorem X3{d:Nat}{pos:String}{xs:List aj}{q:Nat}(hx:aH f x=fM v (i*5+(0+q*1)))(a:cR P t=some false)(c:aI L v xs)(hi:i<xs.length)(b:q<5):
  aP P ⟨some d,.load t x,ty,pos,af,gd⟩ f L (.int .i64 ((xs[i]'hi).get q)):=by
 rw[show 0+q*1=q by omega]at hx;exact Fe (sz:=5) hx a c hi rfl (HF _ q b)
def pC(told:List aj)(s k:Nat):Int:=((told.take k).map (·.get s)).foldl min ((told.headD aj.zero).get s)
theorem I7{told:List aj}{s:Nat}(h:k<told.length):pC told s (k+1)=min (pC told s k) ((told[k]'h).get s):=by unfold pC;rw[da h,dA,js];rfl
theorem ZO(told:List aj)(s:Nat):pC told s told.length=fk told s:=by unfold pC fk;rw[dI]
theorem Nz{told:List aj}(s:Nat)(h:0<told.length):(told[0]'h).get s=pC told s 0:=by
 match told,h with
 |c::t,_=>rfl
theorem KQ{ss:List Sh}{s:Nat}{x:Sh}(a:s<ss.length)(b:x.g=(ss[s]'a).g):(ss.set s x).map (λs=>Ptr.mk s.g)=ss.map (λs=>Ptr.mk s.g):=by rw[oC,b];have h:∀(l:List Ptr) (h:s<l.length),l.set s (l[s]'h)=l:=λl h=>qB h;have:=h (ss.map λs=>Ptr.mk s.g) (by simpa using a);rwa[gT]at this
theorem xp{vs:Value}{most:Int}{ss:List Sh}{told:List aj}{s:Nat}(a:s<ss.length)(M:List aa):Sub (jY most (ss[s]'a)::kr (ss[s]'a)::ry most ss s::Po g vs vt::dG vs ss::Told vt told::M) (Po g vs vt::dG vs ss::Told vt told::fm most ss::M):=
 cW [3] rfl (eY.focus (B:=jY most) (C:=kr) _ a)
theorem CH{vs:Value}{most:Int}{ss:List Sh}{told:List aj}{s:Nat}{x:Sh}(a:s<ss.length)(b:x.g=(ss[s]'a).g)(M:List aa):Sub (Po g vs vt::dG vs (ss.set s x)::Told vt told::fm most (ss.set s x)::M) (jY most x::kr x::ry most ss s::Po g vs vt::dG vs ss::Told vt told::M):=by refine ar ?_ (eY.qt (B:=jY most) (C:=kr) x _ a);unfold dG;rw[KQ a b];exact cW [3,3,3] rfl (bW _)
theorem DG{vs:Value}{most:Int}{ss:List Sh}{told:List aj}{s:Nat}(a:s<ss.length)(M:List aa):Sub (Po g vs vt::dG vs ss::Told vt told::fm most ss::M) (jY most (ss[s]'a)::kr (ss[s]'a)::ry most ss s::Po g vs vt::dG vs ss::Told vt told::M):=by have:=CH (g:=g) (vs:=vs) (vt:=vt) (most:=most) (told:=told) a (x:=ss[s]'a) rfl M;rwa[qB]at this
set_option maxRecDepth 20000 attribute [local irreducible] Ex aM Fn bI bJ bV fin meet ch aX bZ aP aN aI Rd aK Row ao Sub bk bP bS bN bg bR Hid bY
section
attribute [local irreducible] eY mh
theorem DN(g:Nat)(vs vt:Value)(ss:List Sh)(r:Int)(M:List aa):Fn prog 190 #[.pointer (some ⟨g,0,none⟩),.int .i64 r] (Po g vs vt::dG vs ss::M)
  λv L'=>v=.bool (decide (0<=r/\r<ss.length))/\L'=Po g vs vt::dG vs ss::M:=by
 have c:(ss.map λs=>Ptr.mk s.g).length=ss.length:=bC ..;refine fo func190 ntmps190 ?_;by_cases a:0<=r
 ·by_cases b:r<ss.length
  ·rw[bf ⟨a,b⟩];exact bh
  ·rw[bd (λh=>b h.2)];exact bh
 ·rw[bd (λh=>a h.1)];exact bh
theorem Nb(b:Nat)(vs vt:Value)(most:Int)(ss:List Sh)(told:List aj)(s:Nat)(M:List aa)(a:s<ss.length)(t:ss.length<=5)(q:told.length=ss.length)(l:(ss[s]'a).sf.Ok)(o:(ss[s]'a).sf.all.length<=100000000):
  Fn prog 192 #[.pointer (some ⟨b,0,none⟩),.int .i64 s] (Po b vs vt::dG vs ss::Told vt told::fm most ss::M)
  λ_ L'=>∃x:Sh,x.g=(ss[s]'a).g/\x.sf=(ss[s]'a).sf.to (fk told s)/\L'=Po b vs vt::dG vs (ss.set s x)::Told vt told::fm most (ss.set s x)::M:=by
 have r:(ss.map λs=>Ptr.mk s.g).length=ss.length:=bC ..;refine fo func192 ntmps192 ?_;refine rn ?_;intros;refine cH J J J (X3 (i:=0) J J rD U U) ?_;rw[dc,Nz s U];refine rn ?_;intros;refine bm [4,20] (λm f L'=>∃k:Nat,k<=told.length/\m=told.length-k/\f=[.int .i64 (pC told s k),.int .i64 k]/\L'=Po b vs vt::dG vs ss::Told vt told::fm most ss::M) told.length ⟨0,U,rfl,rfl,rfl⟩ ?_;rintro m f n L' ⟨k,p,rfl,rfl,rfl⟩;by_cases j:k<told.length
 ·refine rn ?_;intros;rw[dc,sR,<-I7 j];refine rn ?_;intros;exact aS ⟨told.length-(k+1),_,U,rB,k+1,U,rfl,av rfl (av (aQ U) rfl),rfl⟩
 ·obtain rfl:k=told.length:=U;rw[ZO];refine rn ?_;intros;rw[gT];refine cb (L':=jY most (ss[s]'a)::kr (ss[s]'a)::ry most ss s::Po b vs vt::dG vs ss::Told vt told::M) ?_ (xp a M);unfold Sf.Ok at l;refine ca [] call249 (SN (ss[s]'a).g most (ss[s]'a).sf.cut (fk told s) (ss[s]'a).v ((ss[s]'a).sf.all.drop (ss[s]'a).sf.cut) _ U (by simp;omega)) ?_;rintro _ _ ⟨e,d,rfl⟩;refine rn ?_;intros;refine fr ?_;obtain⟨B,c⟩:∃B:Nat,(B:Int)=max ((ss[s]'a).sf.cut:Int) (min (fk told s) (ss[s]'a).sf.all.length):=⟨(max ((ss[s]'a).sf.cut:Int) (min (fk told s) (ss[s]'a).sf.all.length)).toNat,U⟩;have hx:(ss[s]'a).sf.to (fk told s)=⟨(ss[s]'a).sf.all,B⟩:=by unfold Sf.to;rw[<-c,dc]
  refine⟨_,?_,⟨(ss[s]'a).g,e,d,⟨(ss[s]'a).sf.all,B⟩⟩,rfl,hx.symm,rfl⟩;refine ar (CH (x:=⟨(ss[s]'a).g,e,d,⟨(ss[s]'a).sf.all,B⟩⟩) a rfl M) ?_;have h:max ((ss[s]'a).sf.cut:Int) (min (fk told s) ((ss[s]'a).sf.cut+((ss[s]'a).sf.all.drop (ss[s]'a).sf.cut).length))=B:=by rw[c,ew];congr 2;omega
  rw[h,mO,show(ss[s]'a).sf.cut+((B:Int)-(ss[s]'a).sf.cut).toNat=B by omega];exact rB
end
section
theorem GK(f:Nat->Int)(k:Nat)(v:Int)(a:k<5):(ab.cells (eF f)).set k (.int .i64 v)=ab.cells (eF λi=>if i=k then v else f i):=by
 match k,a with
 |0,_=>rfl
 |1,_=>rfl
 |2,_=>rfl
 |3,_=>rfl
 |4,_=>rfl
theorem Ap{f g:Nat->Int}(h:∀i,i<5->f i=g i):eF f=eF g:=by unfold eF;rw[h 0 U,h 1 U,h 2 U,h 3 U,h 4 U]
def Sh.zero:Sh:=⟨0,.slice none 0 0,rfl,Sf.none⟩
def lJ(φ:Sf->Int)(ss:List Sh)(k:Nat)(i:Nat):Int:=if i<k then φ (ss.getD i Sh.zero).sf else 0
theorem TP{φ:Sf->Int}{ss:List Sh}(b:k<ss.length):(λi=>if i=k then φ (ss[k]'b).sf else lJ φ ss k i)=lJ φ ss (k+1):=by
 funext i;unfold lJ;by_cases h:i=k
 ·subst h;rw[an rfl,an U];simp[cu,b]
 ·rw[ai h];by_cases a:i<k
  ·rw[an a,an U]
  ·rw[ai a,ai U]
theorem Ou{told:List aj}(h:told.length<=5):told++(List.replicate 5 aj.zero).drop told.length=[told.getD 0 aj.zero,told.getD 1 aj.zero,told.getD 2 aj.zero,told.getD 3 aj.zero,told.getD 4 aj.zero]:=by
 match told,h with
 |[],_=>rfl
 |[a],_=>rfl
 |[a,b],_=>rfl
 |[a,b,c],_=>rfl
 |[a,b,c,d],_=>rfl
 |[a,b,c,d,e],_=>rfl
def HO(base a:aj)(told:List aj):Hs:=⟨base,a,told.getD 0 aj.zero,told.getD 1 aj.zero,told.getD 2 aj.zero,told.getD 3 aj.zero,told.getD 4 aj.zero⟩
theorem WV(base a:aj){told:List aj}(h:told.length<=5):(.bool true::(ab.cells base++ab.cells a))++cellsOf (told++(List.replicate 5 aj.zero).drop told.length)++[]=ab.cells (HO base a told):=by rw[Ou h];rfl
attribute [local irreducible] eY mh
theorem H3(F:FuncId)(φ:Sf->Int)(b:Nat)(vs vt:Value)(most:Int)(ss:List Sh)(told:List aj)(M:List aa)(u:ss.length<=5)
  (l:∀(xs:Array Value) (w:World),(callFunc F xs).run prog w=.ok (.enter F xs) w)
  (i:∀x∈ss,∀M:List aa,Fn prog F #[.pointer (some ⟨x.g,0,none⟩)] (jY most x::kr x::M) λr L'=>r=.int .i64 (φ x.sf)/\L'=jY most x::kr x::M):
  Fn prog 158 #[.pointer (some ⟨b,0,none⟩),.func (.func F) #[] #[]] (Po b vs vt::dG vs ss::Told vt told::fm most ss::M)
  λv L'=>v=.agg (ab.cells (eF (lJ φ ss ss.length))).toArray/\L'=Po b vs vt::dG vs ss::Told vt told::fm most ss::M:=by
 have t:(ss.map λs=>Ptr.mk s.g).length=ss.length:=bC ..;refine fo func158 ntmps158 ?_;refine rn ?_;(repeat(first|intro(g:Nat)|intro(v:Value)|intro(o:O1 _)|intro(cs:List Value)|intro(c:_=List.set _ _ _)|intro(zs:List _)|intro h));rename_i d;revert g;intro e;refine bm [13] (λm f L'=>∃k:Nat,k<=ss.length/\m=ss.length-k/\f=[.int .i64 k]/\L'=ao e 50 (ab.cells (eF (lJ φ ss k)))::ao d 50 [.int .i64 0,.int .i64 0,.int .i64 0,.int .i64 0,.int .i64 0]::Po b vs vt::dG vs ss::Told vt told::fm most ss::M) ss.length ⟨0,U,rfl,rfl,rfl⟩ ?_;rintro m f n L' ⟨k,p,rfl,rfl,rfl⟩;by_cases a:k<ss.length
 ·have q:(ab.cells (eF (lJ φ ss k))).length=5:=rfl;refine rn ?_;(repeat(first|intro(cs:List Value)|intro(c:_=List.set _ _ _)|intro h));rw[gT];refine cb (L':=jY most (ss[k]'a)::kr (ss[k]'a)::ry most ss k::Po b vs vt::dG vs ss::Told vt told::ao e 50 (ab.cells (eF (lJ φ ss k)))::ao d 50 [.int .i64 0,.int .i64 0,.int .i64 0,.int .i64 0,.int .i64 0]::M) ?_ (ar (xp a _) (cW [5,5,5,5] rE rB));refine iL [] (xs:=[.tmp 20]) (fs:=[]) (us:=[]) (vs:=[.pointer (some ⟨(ss[k]'a).g,0,none⟩)]) J J l rE J (i _ (bT a) _) ?_;rintro _ _ ⟨rfl,rfl⟩;refine rn ?_;(repeat(first|intro(cs:List Value)|intro(c:_=List.set _ _ _)|intro h));have j:cs=ab.cells (eF (lJ φ ss (k+1))):=by rw[c,show 0+(k:Int).toNat*1=k by omega,GK _ _ _ U,TP a]
  subst j;exact aS ⟨ss.length-(k+1),_,U,ar (cW [5,5] rE rB) (DG a _),k+1,U,rfl,av (aQ U) rfl,rfl⟩
 ·obtain rfl:k=ss.length:=U;exact bh
theorem ZB(most:Int)(x:Sh)(M:List aa):Fn prog 159 #[.pointer (some ⟨x.g,0,none⟩)] (jY most x::kr x::M) λr L'=>r=.int .i64 ((λs:Sf=>(s.cut:Int)) x.sf)/\L'=jY most x::kr x::M:=OD x.g most x.sf.cut x.v _ M
theorem NM(most:Int)(x:Sh)(M:List aa)(a:x.sf.Ok)(b:x.sf.all.length<=1000000000):Fn prog 160 #[.pointer (some ⟨x.g,0,none⟩)] (jY most x::kr x::M) λr L'=>r=.int .i64 ((λs:Sf=>(s.all.length:Int)) x.sf)/\L'=jY most x::kr x::M:=by unfold Sf.Ok at a;refine(tI x.g most x.sf.cut x.v (x.sf.all.drop x.sf.cut) M U (by simp;omega)).mono ?_;rintro r L' ⟨rfl,rfl⟩;exact⟨aQ (by simp;omega),rfl⟩
theorem Ww(a:Nat)(vs vt:Value)(most:Int)(ss:List Sh)(told:List aj)(M:List aa)(e:ss.length<=5)(i:told.length=ss.length)(d:∀x∈ss,x.sf.Ok/\x.sf.all.length<=1000000000):
  Fn prog 92 #[.pointer (some ⟨a,0,none⟩)] (Po a vs vt::dG vs ss::Told vt told::fm most ss::M)
  λv L'=>v=.agg (ab.cells (HO (eF (lJ (λs=>(s.cut:Int)) ss ss.length)) (eF (lJ (λs=>(s.all.length:Int)) ss ss.length)) told)).toArray/\L'=Po a vs vt::dG vs ss::Told vt told::fm most ss::M:=by
 refine fo func92 ntmps92 ?_;refine rn ?_;(repeat(first|intro(g:Nat)|intro h));refine ca [4,4,4,4] call158 (H3 159 (λs=>(s.cut:Int)) a vs vt most ss told _ e call159 (λx hx M=>ZB most x M)) ?_;rintro _ _ ⟨rfl,rfl⟩;refine rn ?_;(repeat(first|intro(g:Nat)|intro h));refine ca [] call158 (H3 160 (λs=>(s.all.length:Int)) a vs vt most ss told _ e call160 (λx hx M=>NM most x M (d x hx).1 (d x hx).2)) ?_;rintro _ _ ⟨rfl,rfl⟩;generalize eF (lJ (λs=>(s.cut:Int)) ss ss.length)=b;generalize eF (lJ (λs=>(s.all.length:Int)) ss ss.length)=c;refine rn ?_;(repeat(first|intro(g:Nat)|intro h));rename_i f;refine bF (L':=ao g 53 ((.bool true::(ab.cells b++ab.cells c))++cellsOf (List.replicate 5 aj.zero)++[])::Po a vs vt::dG vs ss::Told vt told::fm most ss::ao f 53 (.bool false::List.replicate 35 (.int .i64 0))::M) ?_ rB;refine bU 7 (_::_::_::_::_::M) rfl rQ rF ?_;refine mn ?_;intros;refine fZ J J J (W4 J J J J J) ?_;refine mn ?_;intros;refine bX J J J ?_;refine RC 0 (pre:=.bool true::(ab.cells b++ab.cells c)) (post:=[]) (List.replicate 5 aj.zero) told J J J rfl J J J rD U J J J ?_;refine mw ?_;intros;rw[WV b c U];exact bh
end
section
def qk(x y:aj)(k:Nat):aj:=eF λi=>if i<k then max (x.get i) (y.get i)else x.get i
theorem We(x y:aj):qk x y 5=x.join y:=rfl
theorem OW{x y:aj}(a:k<5):(qk x y k).get k=x.get k:=by unfold qk;rw[KP _ _ a,ai U]
theorem PY{x y:aj}(b:k<5):(ab.cells (qk x y k)).set k (.int .i64 (max (x.get k) (y.get k)))=ab.cells (qk x y (k+1)):=by
 unfold qk;rw[GK _ _ _ b];congr 1;refine Ap λi hi=>?_;by_cases h:i=k
 ·subst h;rw[an rfl,an U]
 ·rw[ai h];by_cases a:i<k
  ·rw[an a,an U]
  ·rw[ai a,ai U]
attribute [local irreducible] eY mh
theorem Qu(x y:aj)(M:List aa):Fn prog 193 #[.agg (ab.cells x).toArray,.agg (ab.cells y).toArray] M λv L'=>v=.agg (ab.cells (x.join y)).toArray/\L'=M:=by
 refine fo func193 ntmps193 ?_;refine rn ?_;(repeat(first|intro(g:Nat)|intro(v:Value)|intro(o:O1 _)|intro(cs:List Value)|intro(a:_=List.set _ _ _)|intro(zs:List _)|intro h));rename_i d e;revert g;intro f;refine bm [6] (λm c L'=>∃k:Nat,k<=5/\m=5-k/\c=[.int .i64 k]/\L'=ao f 50 (ab.cells aj.zero)::ao e 50 (ab.cells y)::ao d 50 (ab.cells (qk x y k))::M) 5 ⟨0,U,rfl,rfl,rfl⟩ ?_;rintro m c j L' ⟨k,l,rfl,rfl,rfl⟩;by_cases b:k<5
 ·have n:(ab.cells (qk x y k)).length=5:=rfl;refine rn ?_;(repeat(first|intro(cs:List Value)|intro(a:_=List.set _ _ _)|intro h));refine ln ?_;(repeat(first|intro(cs:List Value)|intro(a:_=List.set _ _ _)|intro h));rw[sR,sR,show(k:Int).toNat=k by omega,OW b];refine rn ?_;(repeat(first|intro(cs:List Value)|intro(a:_=List.set _ _ _)|intro h));have i:cs=ab.cells (qk x y (k+1)):=by rw[a,show 0+(k:Int).toNat*1=k by omega,PY b]
  subst i;exact aS ⟨5-(k+1),_,U,rB,k+1,U,rfl,av (aQ U) rfl,rfl⟩
 ·obtain rfl:k=5:=U;rw[We];exact bh
def tG(x y:aj)(k:Nat):aj:=eF λi=>if i<k then max (x.get i) (y.get i)else 0
theorem Q9(x y:aj):tG x y 5=x.join y:=rfl
theorem Qi{x y:aj}(b:k<5):(ab.cells (tG x y k)).set k (.int .i64 (max (x.get k) (y.get k)))=ab.cells (tG x y (k+1)):=by
 unfold tG;rw[GK _ _ _ b];congr 1;refine Ap λi hi=>?_;by_cases h:i=k
 ·subst h;rw[an rfl,an U]
 ·rw[ai h];by_cases a:i<k
  ·rw[an a,an U]
  ·rw[ai a,ai U]
theorem JA(x y:aj)(M:List aa):Fn prog 208 #[.agg (ab.cells x).toArray,.agg (ab.cells y).toArray] M λv L'=>v=.agg (ab.cells (x.join y)).toArray/\L'=M:=by
 refine fo func208 ntmps208 ?_;refine rn ?_;(repeat(first|intro(g:Nat)|intro(v:Value)|intro(o:O1 _)|intro(cs:List Value)|intro(a:_=List.set _ _ _)|intro(zs:List _)|intro h));rename_i c d e;revert g;intro f;refine bm [6] (λm b L'=>∃k:Nat,k<=5/\m=5-k/\b=[.int .i64 k]/\L'=ao f 50 (ab.cells (tG x y k))::ao e 50 (ab.cells aj.zero)::ao d 50 (ab.cells y)::ao c 50 (ab.cells x)::M) 5 ⟨0,U,rfl,rfl,rfl⟩ ?_;rintro m b l L' ⟨k,n,rfl,rfl,rfl⟩;by_cases j:k<5
 ·have p:(ab.cells (tG x y k)).length=5:=rfl;refine rn ?_;(repeat(first|intro(cs:List Value)|intro(a:_=List.set _ _ _)|intro h));refine ln ?_;(repeat(first|intro(cs:List Value)|intro(a:_=List.set _ _ _)|intro h));rw[sR,sR,show(k:Int).toNat=k by omega];refine rn ?_;(repeat(first|intro(cs:List Value)|intro(a:_=List.set _ _ _)|intro h));have i:cs=ab.cells (tG x y (k+1)):=by rw[a,show 0+(k:Int).toNat*1=k by omega,Qi j]
  subst i;exact aS ⟨5-(k+1),_,U,rB,k+1,U,rfl,av (aQ U) rfl,rfl⟩
 ·obtain rfl:k=5:=U;rw[Q9];exact bh
def qI(ss:List Sh)(told:List aj)(k:Nat)(a:List Sh):Prop:=a.length=ss.length/\(∀i (h:i<ss.length) (h2:i<a.length),(a[i]'h2).g=(ss[i]'h).g/\(a[i]'h2).sf=if i<k then(ss[i]'h).sf.to (fk told i)else(ss[i]'h).sf)
theorem Kt(ss:List Sh)(told:List aj):qI ss told 0 ss:=⟨rfl,λi h a=>⟨rfl,by rw[ai U]⟩⟩
theorem JY{ss a:List Sh}{told:List aj}(h:qI ss told k a)(j:k<ss.length){x:Sh}(m:x.g=(a[k]'(by rw[h.1];exact j)).g)(l:x.sf=(a[k]'(by rw[h.1];exact j)).sf.to (fk told k)):qI ss told (k+1) (a.set k x):=by
 refine⟨by rw[iw];exact h.1,λi hi f=>?_⟩;rw[iw]at f;obtain⟨c,b⟩:=h.2 i hi f;rw[BE];split
 ·rename_i e;subst e;rw[ai U]at b;exact⟨m.trans c,by rw[l,b,an U]⟩
 ·rename_i e;refine⟨c,?_⟩;rw[b];by_cases d:i<k
  ·rw[an d,an U]
  ·rw[ai d,ai U]
theorem SR(d:Nat)(vs vt:Value)(most:Int)(ss:List Sh)(told:List aj)(r:Int)(c:aj)(M:List aa)(H:ss.length<=5)(t:told.length=ss.length)(u:∀x∈ss,x.sf.Ok/\x.sf.all.length<=100000000):
  Fn prog 133 #[.pointer (some ⟨d,0,none⟩),.int .i64 r,.agg (ab.cells c).toArray] (Po d vs vt::dG vs ss::Told vt told::fm most ss::M)
  λv L'=>(¬(0<=r/\r<ss.length)/\v=.int .i64 23/\L'=Po d vs vt::dG vs ss::Told vt told::fm most ss::M)\/
   ((0<=r/\r<ss.length)/\v=.int .i64 0/\∃a:List Sh,qI ss (told.set r.toNat ((told.getD r.toNat aj.zero).join c)) ss.length a/\L'=Po d vs vt::dG vs a::Told vt (told.set r.toNat ((told.getD r.toNat aj.zero).join c))::fm most a::M):=by
 have F:(ss.map λs=>Ptr.mk s.g).length=ss.length:=bC ..;refine fo func133 ntmps133 ?_;refine rn ?_;intros;refine ca [2,2] call190 (DN d vs vt ss r _) ?_;rintro _ _ ⟨rfl,rfl⟩;by_cases e:0<=r/\r<ss.length
 ·rw[bf e];obtain⟨n,rfl⟩:=jF e.1;have l:n<told.length:=U;refine rn ?_;intros;refine zL ?_;intros;refine ma [] call193 (Qu _ c _) ?_;rintro _ _ ⟨rfl,rfl⟩;refine mw ?_;intros;refine rn ?_;intros;refine zU 3 J J J J J U rE ?_;obtain⟨b,g⟩:∃b,b=told.set n ((told[n]'l).join c):=⟨_,rfl⟩;have p:told.set (n:Int).toNat ((told.getD (n:Int).toNat aj.zero).join c)=b:=by rw[g,dc];simp[cu,l]
  rw[p,<-g];have I:b.length=ss.length:=by rw[g,iw];exact t
  clear g p;refine rn ?_;intros;refine bF (L':=Po d vs vt::dG vs ss::Told vt b::fm most ss::M) ?_ rB;refine bm [32] (λm q L'=>∃(k:Nat) (a:List Sh),k<=ss.length/\m=ss.length-k/\qI ss b k a/\q=[.int .i64 k]/\L'=Po d vs vt::dG vs a::Told vt b::fm most a::M) ss.length ⟨0,ss,U,rfl,Kt ss b,rfl,rfl⟩ ?_;rintro m q z L' ⟨k,a,A,rfl,f,rfl,rfl⟩;have C:=f.1;by_cases h:k<ss.length
  ·have j:k<a.length:=U;have i:=(f.2 k h j).2;rw[ai U]at i;have o:=u _ (bT h);refine rn ?_;intros;refine ca [] call192 (Nb d vs vt most a b k _ j U U (by rw[i];exact o.1) (by rw[i];exact o.2)) ?_;rintro _ _ ⟨x,y,w,rfl⟩;refine rn ?_;intros;exact aS ⟨ss.length-(k+1),_,U,rB,k+1,a.set k x,U,rfl,JY f h y w,av (aQ U) rfl,rfl⟩
  ·obtain rfl:k=ss.length:=U;refine rn ?_;intros;refine fr ?_;exact⟨_,rB,.inr ⟨e,rfl,a,f,rfl⟩⟩
 ·rw[bd e];refine rn ?_;intros;refine fr ?_;refine⟨_,?_,.inl ⟨e,rfl,rfl⟩⟩;exact rB
end
section
theorem IX{most k:Int}{l:List Ev}(h:(jj most r k l).1≠0):(jj most r k l).2=[]:=by
 unfold jj at h⊢
 split
 ·rfl
 ·split
  ·rfl
  ·rename_i a b;rw[ai a,ai b]at h;exact absurd rfl h
theorem Ju(most a k:Int)(l:List Ev):(jj most a k l).2.length<=l.length:=by
 unfold jj;split
 ·simp
 ·split
  ·simp
  ·exact jJ _ _
def pf(n:Nat)(r:Int)(l:List Ev):Prop:=¬(0<=r/\r<n)\/∃e∈l,e.r≠r
@[reducible] noncomputable def gJ(most:Int)(s:Sf)(l:List Ev):Int×List Ev:=jj most s.all.length (s.all.length-s.cut:Nat) l
attribute [local irreducible] eY mh
theorem Y4(c:Nat)(vs vt u:Value)(most:Int)(ss:List Sh)(told:List aj)(r:Int)(l:List Ev)(M:List aa)(j7:ss.length<=5)(hl:told.length=ss.length)(c8:∀x∈ss,x.sf.Ok/\x.sf.all.length<=10000000)
    (hu:aI M u l)(j3:l.length<=10000000)(V:∀e∈l,cD e.n):
    Fn prog 132 #[.pointer (some ⟨c,0,none⟩),.int .i64 r,u] (Po c vs vt::dG vs ss::Told vt told::fm most ss::M)
    λv L'=>(pf ss.length r l/\v=.tuple #[.int .i64 0,.int .i64 23]/\L'=Po c vs vt::dG vs ss::Told vt told::fm most ss::M)\/
      (¬pf ss.length r l/\∃h:r.toNat<ss.length,∃x:Sh,x.g=(ss[r.toNat]'h).g/\L'=Po c vs vt::dG vs (ss.set r.toNat x)::Told vt told::fm most (ss.set r.toNat x)::M/\
        ((gJ most (ss[r.toNat]'h).sf l).1≠0/\v=.tuple #[.int .i64 0,.int .i64 (gJ most (ss[r.toNat]'h).sf l).1]/\x.sf=(ss[r.toNat]'h).sf\/
         (gJ most (ss[r.toNat]'h).sf l).1=0/\v=.tuple #[.int .i64 x.sf.all.length,.int .i64 0]/\x.sf=(⟨(ss[r.toNat]'h).sf.all++(gJ most (ss[r.toNat]'h).sf l).2,(ss[r.toNat]'h).sf.cut⟩:Sf).to (fk told r.toNat))):=by
  have j4:(ss.map λs=>Ptr.mk s.g).length=ss.length:=bC ..;refine fo func132 ntmps132 ?_;refine rn ?_;(repeat(first|intro(g:Nat)|intro h));refine ca [] call190 (DN c vs vt ss r _) ?_;rintro _ _ ⟨rfl,rfl⟩;by_cases t:0<=r/\r<ss.length
  · rw[bf t];obtain⟨n,rfl⟩:=jF t.1;have a:n<ss.length:=U;refine rn ?_;(repeat(first|intro(g:Nat)|intro h));refine bm [17] (λm S L'=>∃k:Nat,k<=l.length/\m=l.length-k/\(∀j (o:j<l.length),j<k->(l[j]'o).r=(n:Int))/\S=[.int .i64 k]/\L'=Po c vs vt::dG vs ss::Told vt told::fm most ss::M) l.length ⟨0,U,rfl,λj _ h=>by omega,rfl,rfl⟩ ?_;rintro m S g1 L' ⟨k,hk,rfl,z,rfl,rfl⟩;by_cases L:k<l.length
    · by_cases d:(l[k]'L).r=(n:Int)
      · refine rn ?_;(repeat(first|intro(g:Nat)|intro h));exact aS ⟨l.length-(k+1),_,U,rB,k+1,U,rfl,λj o e9=>by
          by_cases h:j=k
          · subst h;exact d
          · exact z j o U,av (aQ U) rfl,rfl⟩
      · refine rn ?_;(repeat(first|intro(g:Nat)|intro h));refine fr ?_;exact⟨_,rB,.inl ⟨.inr ⟨_,bT L,d⟩,rfl,rfl⟩⟩
    · have I:¬pf ss.length (n:Int) l:=by
        rintro(h|⟨e,d,W⟩)
        · exact h t
        · obtain⟨j,o,rfl⟩:=la d;exact W (z j o U)
      have c9:=c8 _ (bT a);clear z;unfold Sf.Ok at c9;have H:((ss[n]'a).sf.all.drop (ss[n]'a).sf.cut).length=(ss[n]'a).sf.all.length-(ss[n]'a).sf.cut:=ew ..;obtain⟨p,f⟩:∃p,p=gJ most (ss[n]'a).sf l:=⟨_,rfl⟩;have P:jj most ((ss[n]'a).sf.cut+((ss[n]'a).sf.all.drop (ss[n]'a).sf.cut).length) ((ss[n]'a).sf.all.drop (ss[n]'a).sf.cut).length l=p:=by rw[f];unfold gJ;rw[H];congr 1;omega
      have j6:p.2.length<=l.length:=by rw[f];exact Ju _ _ _ _
      refine rn ?_;(repeat(first|intro(g:Nat)|intro h));rw[gT];refine cb (L':=jY most (ss[n]'a)::kr (ss[n]'a)::ry most ss n::Po c vs vt::dG vs ss::Told vt told::M) ?_ (xp a M);refine bc [] J call191 rE J (Yz (ss[n]'a).g most (ss[n]'a).sf.cut (ss[n]'a).v u ((ss[n]'a).sf.all.drop (ss[n]'a).sf.cut) l _ rD V U U U (ss[n]'a).one) ?_;rintro _ _ ⟨rfl,v1,o1,rfl⟩;rw[P,<-Am (show(ss[n]'a).sf.cut<=(ss[n]'a).sf.all.length by omega)];obtain⟨b,w⟩:∃b:Sh,b=⟨(ss[n]'a).g,v1,o1,⟨(ss[n]'a).sf.all++p.2,(ss[n]'a).sf.cut⟩⟩:=⟨_,rfl⟩;have F:b.g=(ss[n]'a).g:=by rw[w]
      have i:b.sf=⟨(ss[n]'a).sf.all++p.2,(ss[n]'a).sf.cut⟩:=by rw[w]
      refine cb (L':=Po c vs vt::dG vs (ss.set n b)::Told vt told::fm most (ss.set n b)::M) ?_ (ar (CH (x:=b) a F M) (by rw[w];exact rB));clear w P H;by_cases q:p.1=0
      · rw[q];have Q:n<(ss.set n b).length:=by simpa using a
        have d:(ss.set n b)[n]'Q=b:=xn _;refine rn ?_;(repeat(first|intro(g:Nat)|intro h));refine ca [] call192 (Nb c vs vt most (ss.set n b) told n _ Q (by simp;omega) (by simp;omega) (by rw[d,i];unfold Sf.Ok;simp;omega) (by rw[d,i];simp;omega)) ?_;rintro _ _ ⟨x,R,y,rfl⟩;rw[d]at R y;rw[pD];have C:n<(ss.set n x).length:=by simpa using a
        have A:(ss.set n x)[n]'C=x:=xn _;have j5:((ss.set n x).map λs=>Ptr.mk s.g).length=ss.length:=by simp
        have d6:x.sf.all=(ss[n]'a).sf.all++p.2:=by rw[y,i];rfl
        have d7:x.sf.Ok:=by rw[y];exact Sf.Ck (by rw[i];unfold Sf.Ok;simp;omega) _
        refine rn ?_;(repeat(first|intro(g:Nat)|intro h));rw[gT,A];refine cb (L':=jY most x::kr x::ry most (ss.set n x) n::Po c vs vt::dG vs (ss.set n x)::Told vt told::M) ?_ (by have:=xp (g:=c) (vs:=vs) (vt:=vt) (most:=most) (told:=told) C M;rwa[A]at this);refine ca [] call160 (NM most x _ d7 (by rw[d6];simp;omega)) ?_;rintro _ _ ⟨rfl,rfl⟩;refine rn ?_;(repeat(first|intro(g:Nat)|intro h));refine fr ?_;refine⟨_,(by have:=DG (g:=c) (vs:=vs) (vt:=vt) (most:=most) (told:=told) C M;rwa[A]at this),.inr ⟨I,a,x,R.trans F,rfl,.inr ⟨by show(gJ most (ss[n]'a).sf l).1=0;rw[<-f];exact q,rfl,?_⟩⟩⟩;show x.sf=(⟨(ss[n]'a).sf.all++(gJ most (ss[n]'a).sf l).2,(ss[n]'a).sf.cut⟩:Sf).to (fk told n);rw[y,i,f]
      · refine rn ?_;intros;refine fr ?_;refine⟨_,bW _,.inr ⟨I,a,b,F,rfl,.inl ⟨by show(gJ most (ss[n]'a).sf l).1≠0;rw[<-f];exact q,by show _=Value.tuple #[.int .i64 0,.int .i64 (gJ most (ss[n]'a).sf l).1];rw[<-f],?_⟩⟩⟩;show b.sf=(ss[n]'a).sf;have c7:p.2=[]:=by rw[f]at q⊢;exact IX q
        rw[i,c7,ck]
  · rw[bd t];refine rn ?_;intros;refine fr ?_;exact⟨_,rB,.inl ⟨.inl t,rfl,rfl⟩⟩
end
section
def gx(ss:List Sh)(r:Int)(c:aj):Nat->List Ev
 |0=>[]
 |k+1=>if(k:Int)≠r then gx ss r c k++eT (c.get k) ((ss.getD k Sh.zero).sf.all.drop (ss.getD k Sh.zero).sf.cut)else gx ss r c k
theorem EL{ss:List Sh}(h:∀x∈ss,x.sf.all.length<=10000000)(r:Int)(c:aj):∀k,k<=ss.length->(gx ss r c k).length<=k*10000000
 |0,_=>by simp[gx]
 |k+1,hk=>by
  have b:=EL h r c k U;have e:ss.getD k Sh.zero=ss[k]'U:=by simp[cu,show k<ss.length by omega]
  have d:=h _ (bT (show k<ss.length by omega));have a:=uw (c.get k) ((ss[k]'U).sf.all.drop (ss[k]'U).sf.cut);simp only[gx];rw[uo];generalize k*10000000=z at b;split
  ·rw[bo,e];rw[ew]at a;omega
  ·omega
instance:hQ prog 50 aj:=⟨aj.zero,by kernel_rfl,by kernel_rfl⟩
attribute [local irreducible] eY mh
theorem Qv(b:Nat)(vs vt:Value)(most:Int)(ss:List Sh)(told:List aj)(r:Int)(c:aj)(M:List aa)(C:ss.length<=5)(i:∀x∈ss,x.sf.all.length<=10000000):
  Fn prog 199 #[.pointer (some ⟨b,0,none⟩),.int .i64 r,.agg (ab.cells c).toArray] (Po b vs vt::dG vs ss::Told vt told::fm most ss::M)
  λv L'=>∃u:Value,O1 u/\v=.tuple #[u,.int .i64 (if 0<=r/\r<ss.length then 0 else 23)]/\L'=aL u (if 0<=r/\r<ss.length then gx ss r c ss.length else[])::Po b vs vt::dG vs ss::Told vt told::fm most ss::M:=by
 have A:(ss.map λs=>Ptr.mk s.g).length=ss.length:=bC ..;refine fo func199 ntmps199 ?_;refine rn ?_;(repeat(first|intro(g:Nat)|intro(v:Value)|intro h));refine ca [2,2] call190 (DN b vs vt ss r _) ?_;rintro _ _ ⟨rfl,rfl⟩;by_cases d:0<=r/\r<ss.length
 ·rw[bf d,an d,an d];refine rn ?_;(repeat(first|intro(g:Nat)|intro(v:Value)|intro h));revert g;intro f;refine bF (L':=ao f 50 (ab.cells c)::aL (.slice none 0 0) []::Po b vs vt::dG vs ss::Told vt told::fm most ss::M) ?_ (ar (cW [3] rE rB) (cA (α:=Ev) none 80 _));refine bm [8,20] (λm l L'=>∃(k:Nat) (u:Value),k<=ss.length/\m=ss.length-k/\u.oneCell'=true/\l=[u,.int .i64 k]/\L'=ao f 50 (ab.cells c)::aL u (gx ss r c k)::Po b vs vt::dG vs ss::Told vt told::fm most ss::M) ss.length ⟨0,_,U,rfl,rfl,rfl,rfl⟩ ?_;rintro m l q L' ⟨k,u,o,rfl,j,rfl,rfl⟩;by_cases a:k<ss.length
  ·have y:=EL i r c k o;have z:=i _ (bT a);by_cases p:(k:Int)=r
   ·refine rn ?_;(repeat(first|intro(v:Value)|intro h));exact aS ⟨ss.length-(k+1),_,U,rB,k+1,u,U,rfl,j,av rfl (av (aQ U) rfl),by simp only[gx];rw[ai U]⟩
   ·have t:=uw (c.get k) ((ss[k]'a).sf.all.drop (ss[k]'a).sf.cut);have w:((ss[k]'a).sf.all.drop (ss[k]'a).sf.cut).length=(ss[k]'a).sf.all.length-(ss[k]'a).sf.cut:=ew ..;have n:gx ss r c (k+1)=gx ss r c k++eT (c.get k) ((ss[k]'a).sf.all.drop (ss[k]'a).sf.cut):=by
     have e:ss.getD k Sh.zero=ss[k]'a:=by simp[cu,a]
     simp only[gx];rw[an p,e]
    refine rn ?_;(repeat(first|intro(v:Value)|intro h));rw[sR,show(k:Int).toNat=k by omega,gT];refine cb (L':=jY most (ss[k]'a)::kr (ss[k]'a)::ry most ss k::Po b vs vt::dG vs ss::Told vt told::ao f 50 (ab.cells c)::aL u (gx ss r c k)::M) ?_ (ar (xp a _) (cW [5,5,5,5] rE rB));refine ca [] call252 (Sw (ss[k]'a).g most (ss[k]'a).sf.cut (c.get k) (ss[k]'a).v ((ss[k]'a).sf.all.drop (ss[k]'a).sf.cut) _ U (ss[k]'a).one) ?_;rintro H _ ⟨F,rfl⟩;refine rn ?_;(repeat(first|intro(v:Value)|intro h));rw[<-n];exact aS ⟨ss.length-(k+1),_,U,ar (cW [5,5] rE (bW _)) (ar (DG a (ao f 50 (ab.cells c)::aL v (gx ss r c (k+1))::M)) rB),k+1,v,U,rfl,by assumption,av rfl (av (aQ U) rfl),rfl⟩
  ·obtain rfl:k=ss.length:=U;refine rn ?_;intros;refine fr ?_;exact⟨_,iC _ (bW _),u,j,rfl,rfl⟩
 ·rw[bd d,ai d,ai d];refine rn ?_;intros;refine fr ?_;exact⟨_,ar (bl _ rB) (cA (α:=Ev) none 80 _),.slice none 0 0,rfl,rfl,rfl⟩
theorem UW(c:aJ)(M:List aa):Fn prog 130 #[.agg (ab.cells c).toArray] M
  λv L'=>∃(g:Nat) (vs vt:Value) (ss:List Sh),v=.pointer (some ⟨g,0,none⟩)/\O1 vs/\ss.length=(min (max c.n 0) 5).toNat/\(∀x∈ss,x.sf=Sf.none)/\L'=Po g vs vt::dG vs ss::Told vt (List.replicate (min (max c.n 0) 5).toNat aj.zero)::fm c.w ss::M:=by
 obtain⟨N,f⟩:∃N:Nat,(N:Int)=min (max c.n 0) 5:=⟨(min (max c.n 0) 5).toNat,U⟩;refine fo func130 ntmps130 ?_
 (repeat' (first|(refine r1 ?_;(repeat(first|intro(g:Nat)|intro(v:Value)|intro(o:O1 _)|intro(cs:List Value)|intro(j:_=List.set _ _ _)|intro(zs:List _)|intro h)))|(refine fx J (λh=>?_) (λh=>?_)<;>try(exfalso;omega))|(apply fw;refine fH J J J (λh=>?_) (λh=>?_)<;>try(exfalso;omega))))
 rw[<-f,dc];refine rn ?_;(repeat(first|intro(g:Nat)|intro(v:Value)|intro(o:O1 _)|intro(cs:List Value)|intro(j:_=List.set _ _ _)|intro(zs:List _)|intro h));rename_i a;revert g v;intro vt t gp;refine bF (L':=ao a 23 (ab.cells c)::Po gp (.slice none 0 0) vt::dG (.slice none 0 0) []::Told vt (List.replicate N aj.zero)::fm c.w []::M) ?_ ?_
 ·refine bm [14] (λm e L'=>∃(k:Nat) (vs:Value) (ss:List Sh),k<=N/\m=N-k/\vs.oneCell'=true/\ss.length=k/\(∀x∈ss,x.sf=Sf.none)/\e=[.int .i64 k]/\L'=ao a 23 (ab.cells c)::Po gp vs vt::dG vs ss::Told vt (List.replicate N aj.zero)::fm c.w ss::M) N ⟨0,_,[],U,rfl,rfl,rfl,by simp,rfl,rfl⟩ ?_;rintro m e n L' ⟨k,vs,ss,p,rfl,l,b,d,rfl,rfl⟩;by_cases q:k<N
  ·have r:(ss.map λs=>Ptr.mk s.g).length=ss.length:=bC ..;refine rn ?_;(repeat(first|intro(g:Nat)|intro(v:Value)|intro h));refine fh [2] rE ?_;refine bU 10 (_::_::_::_::M) rfl rQ rF ?_;refine mn ?_;(repeat(first|intro(g:Nat)|intro(v:Value)|intro h));refine ma [] call189 (QR c.w _) ?_;rintro _ _ ⟨gs,rfl,rfl⟩;refine bn ?_;refine br rF ?_;refine mn ?_;(repeat(first|intro(g:Nat)|intro(v:Value)|intro h));refine Nq (⟨gs⟩:Ptr) J J J J J J J J (λg=>?_)
   (repeat' (first|(refine m1 ?_;(repeat(first|intro(v:Value)|intro h)))|(refine cG J J J (λh=>?_) (λh=>?_)<;>try(exfalso;omega))))
   refine rn ?_;(repeat(first|intro(v:Value)|intro h));obtain⟨x,hx⟩:∃x:Sh,x=⟨gs,.slice none 0 0,rfl,Sf.none⟩:=⟨_,rfl⟩;have i:dG v (ss++[x])=aK v 240 (ss.map (λs=>Ptr.mk s.g)++[⟨gs⟩]):=by unfold dG;rw[dA,hx];rfl
   refine aS ⟨N-(k+1),ao a 23 (ab.cells c)::Po gp v vt::dG v (ss++[x])::Told vt (List.replicate N aj.zero)::fm c.w (ss++[x])::M,U,?_,k+1,v,ss++[x],U,rfl,by assumption,by simp[b],λy hy=>by
    rcases ct.1 hy with hy|hy
    ·exact d y hy
    ·rw[mJ.1 hy,hx],av (aQ U) rfl,rfl⟩
   rw[i];refine ar (cW [4,4,2,4] rE (bW _)) (ar (eY.last (B:=jY c.w) (C:=kr) x (aK v 240 (ss.map (λs=>Ptr.mk s.g)++[⟨gs⟩])::ao a 23 (ab.cells c)::Po gp v vt::Told vt (List.replicate N aj.zero)::M)) ?_);rw[hx];exact cW [3,3,7] rE rB
  ·obtain rfl:k=N:=U;refine rn ?_;intros;refine fr ?_;exact⟨_,iC _ (bW _),gp,vs,vt,ss,rfl,l,b,d,rfl⟩
 ·exact ar (cW [4,3,2,3] rE rB) (ar (eY.nil _) (cA (α:=Ptr) none 240 _))
end
end
section
def dS(g:Nat)(most:Int)(st:aR):aa:=λh=>∃(vs vt:Value) (ss:List Sh),ss.map Sh.sf=st.sf/\aA [Po g vs vt,dG vs ss,Told vt st.told,fm most ss] h
theorem Vy(A B C D:aa)(L:List aa):Sub (A::B::C::D::L) (aA [A,B,C,D]::L):=
 ar (bl A (ar (bl B (ar (bl C (ar (bl D (iC _ (bW L))) (og (A:=D) (As:=[]) L))) (og (A:=C) (As:=[D]) L))) (og (A:=B) (As:=[C,D]) L))) (og (A:=A) (As:=[B,C,D]) L)
theorem Qo(A B C D:aa)(L:List aa):Sub (aA [A,B,C,D]::L) (A::B::C::D::L):=
 ar (oi (A:=A) (As:=[B,C,D]) L) (bl A (ar (oi (A:=B) (As:=[C,D]) L) (bl B (ar (oi (A:=C) (As:=[D]) L) (bl C (ar (oi (A:=D) (As:=[]) L) (bl D (ly L))))))))
theorem dS.cls{most:Int}{st:aR}{vs:Value}{ss:List Sh}(h:ss.map Sh.sf=st.sf)(M:List aa):Sub (dS g most st::M) (Po g vs vt::dG vs ss::Told vt st.told::fm most ss::M):=
 ar (jE (λx a=>⟨vs,vt,ss,h,a⟩) (bW M)) (Qo _ _ _ _ M)
theorem dS.fn{k:FuncId}{args:Array Value}{most:Int}{st:aR}(h:∀vs vt ss,ss.map Sh.sf=st.sf->Fn P k args (Po g vs vt::dG vs ss::Told vt st.told::fm most ss::M) R):Fn P k args (dS g most st::M) R:=λF w0 w r ⟨x,⟨vs,vt,ss,b,a⟩,d,s⟩=>
 h vs vt ss b F w0 w r (Vy _ _ _ _ M w F ⟨x,a,d,s⟩)
theorem Fn.res{k:FuncId}{args:Array Value}(h:Fn P k args L R)(d:∀v L',R v L'->∃a,Sub a L'/\R' v a):Fn P k args L R':=λF w0 w r s=>
 (h F w0 w r s).mono λe w' ⟨v,L',c,f,g,b⟩=>let ⟨a,h1,h2⟩:=d v L' b;⟨v,a,c,f,h1 w' F g,h2⟩
structure aR.Ok(B:Nat)(st:aR):Prop where
 n:st.sf.length<=5
 t:st.told.length=st.sf.length
 s:∀x∈st.sf,x.Ok/\x.all.length<=B
theorem aR.Ok.ss{B:Nat}{st:aR}(h:st.Ok B){ss:List Sh}(a:ss.map Sh.sf=st.sf):ss.length=st.sf.length/\∀x∈ss,x.sf.Ok/\x.sf.all.length<=B:=by refine⟨by rw[<-a,bC],λx hx=>h.s _ ?_⟩;rw[<-a];exact rj hx
theorem BL{ss:List Sh}{st:aR}(a:ss.map Sh.sf=st.sf)(h:i<ss.length):st.sf.getD i Sf.none=(ss[i]'h).sf:=by rw[<-a];simp[cu,h]
theorem AA{ss:List Sh}(h:i<ss.length):ss.getD i Sh.zero=ss[i]'h:=by simp[cu,h]
theorem AS(g:Nat)(most:Int)(st:aR)(M:List aa)(c:st.Ok 1000000):Fn prog 92 #[.pointer (some ⟨g,0,none⟩)] (dS g most st::M) λv L'=>v=.agg (ab.cells st.site).toArray/\L'=dS g most st::M:=by
 refine dS.fn λvs vt ss b=>?_;obtain⟨a,hx⟩:=c.ss b;refine(Ww g vs vt most ss st.told M (by rw[a];exact c.n) (by rw[a];exact c.t) (λx h=>⟨(hx x h).1,by have:=(hx x h).2;omega⟩)).res ?_;rintro v L' ⟨rfl,rfl⟩;refine⟨_,dS.cls b M,?_,rfl⟩;have d:eF (lJ (λs=>(s.cut:Int)) ss ss.length)=eF st.qV:=Ap λi hi=>by
  unfold lJ aR.qV;rw[a];by_cases h:i<st.sf.length
  ·rw[an h,an h,AA U,BL b U]
  ·rw[ai h,ai h]
 have e:eF (lJ (λs=>(s.all.length:Int)) ss ss.length)=eF st.iX:=Ap λi hi=>by
  unfold lJ aR.iX;rw[a];by_cases h:i<st.sf.length
  ·rw[an h,an h,AA U,BL b U]
  ·rw[ai h,ai h]
 rw[d,e];rfl
theorem Nr{ss:List Sh}{st:aR}(a:ss.map Sh.sf=st.sf)(r:Int)(c:aj):∀k,k<=ss.length->gx ss r c k=st.mV r c k
 |0,_=>rfl
 |k+1,hk=>by simp only[gx,aR.mV];rw[Nr a r c k U,AA U,BL a U]
theorem U5(g:Nat)(most:Int)(st:aR)(r:Int)(c:aj)(M:List aa)(d:st.Ok 1000000):Fn prog 199 #[.pointer (some ⟨g,0,none⟩),.int .i64 r,.agg (ab.cells c).toArray] (dS g most st::M)
  λv L'=>∃u:Value,O1 u/\v=.tuple #[u,.int .i64 (st.dP r c).2]/\L'=aL u (st.dP r c).1::dS g most st::M:=by
 refine dS.fn λvs vt ss b=>?_;obtain⟨a,hx⟩:=d.ss b;refine(Qv g vs vt most ss st.told r c M (by rw[a];exact d.n) (λx h=>by have:=(hx x h).2;omega)).res ?_;rintro v L' ⟨u,f,rfl,rfl⟩;have e:st.dP r c=(if 0<=r/\r<ss.length then gx ss r c ss.length else[],if 0<=r/\r<ss.length then 0 else 23):=by
  unfold aR.dP aR.has;rw[a];by_cases h:0<=r/\r<st.sf.length
  ·rw[ai (λk=>k h),an h,an h,<-a,Nr b r c _ (bj _)]
  ·rw[an h,ai h,ai h]
 rw[e];exact⟨_,bl _ (dS.cls b M),u,f,rfl,rfl⟩
theorem aR.qQ(told:List aj)(a:List Sf):∀(k i:Nat) (h:i<a.length),k<=a.length->((⟨told,a⟩:aR).eP k).sf[i]'(by rw[aR.uR];exact h)=if i<k then(a[i]'h).to (fk told i)else a[i]'h
 |0,i,h,_=>by simp[aR.eP]
 |k+1,i,h,hk=>by
  have f:=aR.qQ told a k i h U;have e:((⟨told,a⟩:aR).eP (k+1)).sf=((⟨told,a⟩:aR).eP k).sf.set k ((((⟨told,a⟩:aR).eP k).sf.getD k Sf.none).to (fk told k)):=by show((⟨told,a⟩:aR).eP k).sf.set k ((((⟨told,a⟩:aR).eP k).sf.getD k Sf.none).to (fk ((⟨told,a⟩:aR).eP k).told k))=_;rw[aR.zN]
  have d:k<((⟨told,a⟩:aR).eP k).sf.length:=by rw[aR.uR];exact hk
  simp only[e,BE];by_cases c:k=i
  ·subst c;rw[an rfl,an U];have b:=aR.qQ told a k k h U;rw[ai U]at b;rw[show((⟨told,a⟩:aR).eP k).sf.getD k Sf.none=((⟨told,a⟩:aR).eP k).sf[k]'d by simp[cu,d],b]
  ·rw[ai c,f];by_cases b:i<k
   ·rw[an b,an U]
   ·rw[ai b,ai U]
theorem ZI{ss d:List Sh}{told:List aj}{a:List Sf}(c:ss.map Sh.sf=a)(h:qI ss told ss.length d):d.map Sh.sf=((⟨told,a⟩:aR).eP a.length).sf:=by
 have e:a.length=ss.length:=by rw[<-c,bC]
 refine sV (by rw[bC,aR.uR,h.1];exact e.symm) λi f b=>?_;rw[aR.uR]at b;have b:i<a.length:=b;rw[aR.qQ told a a.length i b (bj _),an b,gT,(h.2 i U (by rw[h.1];omega)).2,an U];subst c;rw[gT]
theorem L5(g:Nat)(most:Int)(st:aR)(r:Int)(c:aj)(M:List aa)(d:st.Ok 1000000):Fn prog 133 #[.pointer (some ⟨g,0,none⟩),.int .i64 r,.agg (ab.cells c).toArray] (dS g most st::M)
  λv L'=>v=.int .i64 (st.bK r c).1/\L'=dS g most (st.bK r c).2::M:=by
 refine dS.fn λvs vt ss f=>?_;obtain⟨a,hx⟩:=d.ss f;refine(SR g vs vt most ss st.told r c M (by rw[a];exact d.n) (by rw[a];exact d.t) (λx h=>⟨(hx x h).1,by have:=(hx x h).2;omega⟩)).res ?_;rintro v L' (⟨e,rfl,rfl⟩|⟨e,rfl,n,l,rfl⟩)
 ·have i:¬st.has r:=by unfold aR.has;rw[<-a];exact e
  have b:st.bK r c=(23,st):=by unfold aR.bK;rw[an i]
  rw[b];exact⟨_,dS.cls f M,rfl,rfl⟩
 ·have b:st.bK r c=(0,(⟨st.told.set r.toNat ((st.told.getD r.toNat aj.zero).join c),st.sf⟩:aR).eP st.sf.length):=by
   have i:st.has r:=by unfold aR.has;rw[<-a];exact e
   unfold aR.bK;rw[ai (λk=>k i)]
  rw[b];have m:=aR.zN (⟨st.told.set r.toNat ((st.told.getD r.toNat aj.zero).join c),st.sf⟩:aR) st.sf.length;have j:=dS.cls (g:=g) (most:=most) (vs:=vs) (vt:=vt) (ZI f l) M;rw[m]at j;exact⟨_,j,rfl,rfl⟩
theorem Im(g:Nat)(most:Int)(st:aR)(r:Int)(u:Value)(l:List Ev)(M:List aa)(o:st.Ok 1000000)(H:aI M u l)(I:l.length<=1000000)(A:∀e∈l,cD e.n):Fn prog 132 #[.pointer (some ⟨g,0,none⟩),.int .i64 r,u] (dS g most st::M)
  λv L'=>v=.tuple #[.int .i64 (st.push most r l).1,.int .i64 (st.push most r l).2.1]/\L'=dS g most (st.push most r l).2.2::M:=by
 refine dS.fn λvs vt ss c=>?_;obtain⟨j,hx⟩:=o.ss c;refine(Y4 g vs vt u most ss st.told r l M (by rw[j];exact o.n) (by rw[j];exact o.t) (λx h=>⟨(hx x h).1,by have:=(hx x h).2;omega⟩) H U A).res ?_;have n:pf ss.length r l↔(¬st.has r\/∃e∈l,e.r≠r):=by unfold pf aR.has;rw[j]
 rintro v L' (⟨i,rfl,rfl⟩|⟨i,a,x,L,rfl,C⟩)
 ·have b:st.push most r l=(0,23,st):=by unfold aR.push;rw[an (n.1 i)]
  rw[b];exact⟨_,dS.cls c M,rfl,rfl⟩
 ·have q:=BL c a;have s:∀y:Sf,x.sf=y->(ss.set r.toNat x).map Sh.sf=st.sf.set r.toNat y:=λy hy=>by rw[oC,c,hy]
  rcases C with⟨p,rfl,m⟩|⟨p,rfl,m⟩
  ·have b:st.push most r l=(0,(gJ most (ss[r.toNat]'a).sf l).1,st):=by unfold aR.push;rw[ai (λk=>i (n.2 k)),q];exact an p
   rw[b];have d:=s _ m;have z:st.sf.set r.toNat (ss[r.toNat]'a).sf=st.sf:=by rw[<-c,<-gT (f:=Sh.sf) (h:=by simpa using a)];exact qB _
   rw[z]at d;exact⟨_,dS.cls d M,rfl,rfl⟩
  ·have F:r.toNat<st.sf.length:=by rw[<-j];exact a
   have b:st.push most r l=(((x.sf.all.length:Nat):Int),(0:Int),(⟨st.told,st.sf.set r.toNat x.sf⟩:aR)):=by
    unfold aR.push;rw[ai (λk=>i (n.2 k)),q];refine(ai (λk=>k p)).trans ?_;simp only[Sf.put];have t:x.sf.all=(ss[r.toNat]'a).sf.all++(gJ most (ss[r.toNat]'a).sf l).2:=by rw[m];rfl
    rw[t];simp only[aR.cutAt,pD];have w:(st.sf.set r.toNat (⟨(ss[r.toNat]'a).sf.all++(gJ most (ss[r.toNat]'a).sf l).2,(ss[r.toNat]'a).sf.cut⟩:Sf)).getD r.toNat Sf.none=⟨(ss[r.toNat]'a).sf.all++(gJ most (ss[r.toNat]'a).sf l).2,(ss[r.toNat]'a).sf.cut⟩:=by simp[cu,F]
    rw[w,<-m]
   rw[b];have d:=dS.cls (g:=g) (most:=most) (st:=⟨st.told,st.sf.set r.toNat x.sf⟩) (vs:=vs) (vt:=vt) (s _ rfl) M;exact⟨_,d,rfl,rfl⟩
theorem Y0(c:aJ)(M:List aa):Fn prog 130 #[.agg (ab.cells c).toArray] M
  λv L'=>∃g:Nat,v=.pointer (some ⟨g,0,none⟩)/\L'=dS g c.w ⟨List.replicate (min (max c.n 0) 5).toNat aj.zero,List.replicate (min (max c.n 0) 5).toNat Sf.none⟩::M:=by
 refine(UW c M).res ?_;rintro v L' ⟨g,vs,vt,ss,rfl,f,a,b,rfl⟩;have h:ss.map Sh.sf=List.replicate (min (max c.n 0) 5).toNat Sf.none:=by rw[<-a];refine sV (by simp) λi d e=>?_;rw[gT,yw];exact b _ (bT _)
 exact⟨_,dS.cls (st:=⟨List.replicate (min (max c.n 0) 5).toNat aj.zero,List.replicate (min (max c.n 0) 5).toNat Sf.none⟩) h M,g,rfl,rfl⟩
end
section
theorem xG{x:Int}(h:cD x):IntKind.i64.wrap x=x:=by unfold cD at h;rw[IntKind.wrap_i64];omega
theorem Od(c:aj)(h:∀e∈A,cD e.h):cD (A.foldl (fg c) (0,false)).1:=by
 have g:∀(l:List Ev) (s:Int×Bool),(∀e∈l,cD e.h)->cD s.1->cD (l.foldl (fg c) s).1:=by
  intro l
  induction l with
  |nil=>intro s _ h;exact h
  |cons a l ih=>
   intro s b f;refine ih _ (λe d=>b e (eu _ d)) ?_;have:=b a (fP ..);unfold fg;split
   ·exact this
   ·exact f
 exact g A (0,false) h (by unfold cD;omega)
end
def pI:=@aR.zN
def nD:=@aR.uR
end Go.Proofs.YtogcfijlhpaeeaaGreat
