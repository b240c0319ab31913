/- Texts, one behind the other. No condition. -/
import Derived.Test.YtogcfijlhpaeeaaGreatZajmfbmbb
import Derived.Test.YtogcfijlhpaeeaaGreatZehjcikgl
open Go.RowKit
set_option linter.unusedSimpArgs false
set_option linter.unusedVariables false
set_option linter.unusedSectionVars false
set_option maxHeartbeats 32000000
namespace Go.Proofs.YtogcfijlhpaeeaaGreat
section
def tCtx (b:List UInt8) (r:Int):Nat→Rs→Clk×Rs
 | 0,s=>(Clk.zero,s)
 | m+1,s=>if (m:Int)=r then tCtx b r m s else ((tCtx b r m s).1.set m (tNum b (tCtx b r m s).2 0 1048576).1,(tNum b (tCtx b r m s).2 0 1048576).2)
def tkK (b:List UInt8):Int×Rs:=tByte b (0,0) 1 5
def tkR (b:List UInt8):Int×Rs:=tByte b (tkK b).2 0 4
def tkN (b:List UInt8):Int×Rs:=tNum b (tkR b).2 1 1048576
def tkC (b:List UInt8):Clk×Rs:=tCtx b (tkR b).1 5 (tkN b).2
def tkH (b:List UInt8):Int×Rs:=tNum b (tkC b).2 1 16777216
def tkKl (b:List UInt8):Int×Rs:=tByte b (tkH b).2 1 8
def tkKey (b:List UInt8):List UInt8×Rs:=tStr b (tkKl b).2 (tkKl b).1 keyE
def tkLb (b:List UInt8):Int×Rs:=tByte b (tkKey b).2 0 1
def tkVl (b:List UInt8):Int×Rs:=tByte b (tkLb b).2 1 12
def tkVal (b:List UInt8):List UInt8×Rs:=tStr b (tkVl b).2 (tkVl b).1 valueE
def tkClk (b:List UInt8):Clk:=(tkC b).1.set (tkR b).1.toNat ((tkN b).1 - 1)
def tkE (b:List UInt8):Ev×Rs :=
 if (tkK b).1=1∨(tkK b).1=2 then (⟨(tkR b).1,(tkN b).1,tkClk b,(tkH b).1,⟨(tkK b).1,(tkKey b).1,0,[]⟩⟩,(tkKey b).2)
 else (⟨(tkR b).1,(tkN b).1,tkClk b,(tkH b).1,⟨(tkK b).1,(tkKey b).1,(tkLb b).1,(tkVal b).1⟩⟩,(tkVal b).2)
def evTake (b:List UInt8):Ev×Nat×Int:=if (tkE b).2.1=0 then ((tkE b).1,(tkE b).2.2,0) else (Ev.zero,0,(tkE b).2.1)
theorem tByte_ok (b:List UInt8) (s:Rs) (lo hi:Int) (h:s.2≤b.length):(tByte b s lo hi).2.2≤b.length∧s.2≤(tByte b s lo hi).2.2∧((tByte b s lo hi).1=0∨lo≤(tByte b s lo hi).1∧(tByte b s lo hi).1≤hi):=by
 unfold tByte
 by_cases he:s.1≠0
 ·rw [if_pos he];exact ⟨h,Nat.le_refl _,.inl rfl⟩
 ·rw [if_neg he]
  by_cases hp:s.2<b.length
  ·rw [List.getElem?_eq_getElem hp]
   simp only
   split
   ·rename_i hc;exact ⟨hp,by simp,.inr hc⟩
   ·exact ⟨hp,by simp,.inl rfl⟩
  ·rw [List.getElem?_eq_none rM]
   exact ⟨h,Nat.le_refl _,.inl rfl⟩
theorem tNum_ok (b:List UInt8) (s:Rs) (lo hi:Int) (h:s.2≤b.length):(tNum b s lo hi).2.2≤b.length∧s.2≤(tNum b s lo hi).2.2∧((tNum b s lo hi).1=0∨lo≤(tNum b s lo hi).1∧(tNum b s lo hi).1≤hi):=by
 unfold tNum
 by_cases he:s.1≠0
 ·rw [if_pos he];exact ⟨h,Nat.le_refl _,.inl rfl⟩
 ·rw [if_neg he]
  have hsp:=vT_spec (b.drop s.2) 0 0
  rw [List.length_drop] at hsp
  rcases hv:vTake (b.drop s.2) with x | ⟨n,k⟩
  ·exact ⟨h,Nat.le_refl _,.inl rfl⟩
  ·have hv':vT 0 0 (b.drop s.2)=.ok (n,k):=hv
   rw [hv'] at hsp
   have hk:0<k∧k≤0+(b.length - s.2):=hsp
   simp only
   split
   ·exact ⟨h,Nat.le_refl _,.inl rfl⟩
   ·refine ⟨?_,?_,.inr ?_⟩
    ·show s.2+k≤b.length
     omega
    ·show s.2≤s.2+k
     omega
    ·show lo≤(n:Int)∧(n:Int)≤hi
     omega
theorem tStr_ok (b:List UInt8) (s:Rs) (n:Int) (ok:List UInt8→Int) (h:s.2≤b.length) (hn:0≤n):(tStr b s n ok).2.2≤b.length∧s.2≤(tStr b s n ok).2.2∧((tStr b s n ok).1.length:Int)≤n:=by
 unfold tStr
 by_cases he:s.1≠0
 ·rw [if_pos he];exact ⟨h,Nat.le_refl _,by simpa using hn⟩
 ·rw [if_neg he]
  by_cases hl:(b.length:Int) - s.2<n
  ·rw [if_pos hl];exact ⟨h,Nat.le_refl _,by simpa using hn⟩
  ·rw [if_neg hl]
   refine ⟨?_,?_,?_⟩
   ·show s.2+n.toNat≤b.length
    omega
   ·show s.2≤s.2+n.toNat
    omega
   ·simp only [List.length_take,List.length_drop]
    omega
theorem tCtx_ok (b:List UInt8) (r:Int) (s:Rs) (h:s.2≤b.length):∀ m,(tCtx b r m s).2.2≤b.length∧s.2≤(tCtx b r m s).2.2
 | 0=>⟨h,Nat.le_refl _⟩
 | m+1=>by
  have ih:=tCtx_ok b r s h m
  unfold tCtx
  split
  ·exact ih
  ·have:=tNum_ok b (tCtx b r m s).2 0 1048576 ih.1
   exact ⟨this.1,Nat.le_trans ih.2 this.2.1⟩
theorem tCtx_succ (b:List UInt8) (r:Int) (m:Nat) (s:Rs):tCtx b r (m+1) s=if (m:Int)=r then tCtx b r m s else ((tCtx b r m s).1.set m (tNum b (tCtx b r m s).2 0 1048576).1,(tNum b (tCtx b r m s).2 0 1048576).2):=rfl
theorem tk_ok (b:List UInt8):(tkK b).2.2≤b.length∧(tkR b).2.2≤b.length∧(tkN b).2.2≤b.length∧(tkC b).2.2≤b.length∧(tkH b).2.2≤b.length∧(tkKl b).2.2≤b.length∧(tkKey b).2.2≤b.length∧(tkLb b).2.2≤b.length∧(tkVl b).2.2≤b.length∧(tkVal b).2.2≤b.length
  ∧ (0≤(tkR b).1∧(tkR b).1≤4)∧(0≤(tkKl b).1∧(tkKl b).1≤8)∧(0≤(tkVl b).1∧(tkVl b).1≤12)∧(0≤(tkN b).1∧(tkN b).1≤1048576):=by
 have h1:=tByte_ok b (0,0) 1 5 (Nat.zero_le _)
 have h2:=tByte_ok b (tkK b).2 0 4 h1.1
 have h3:=tNum_ok b (tkR b).2 1 1048576 h2.1
 have h4:=tCtx_ok b (tkR b).1 (tkN b).2 h3.1 5
 have h5:=tNum_ok b (tkC b).2 1 16777216 h4.1
 have h6:=tByte_ok b (tkH b).2 1 8 h5.1
 have h6':0≤(tkKl b).1∧(tkKl b).1≤8:=by have:=h6.2.2;unfold tkKl;omega
 have h7:=tStr_ok b (tkKl b).2 (tkKl b).1 keyE h6.1 h6'.1
 have h8:=tByte_ok b (tkKey b).2 0 1 h7.1
 have h9:=tByte_ok b (tkLb b).2 1 12 h8.1
 have h9':0≤(tkVl b).1∧(tkVl b).1≤12:=by have:=h9.2.2;unfold tkVl;omega
 have h10:=tStr_ok b (tkVl b).2 (tkVl b).1 valueE h9.1 h9'.1
 refine ⟨h1.1,h2.1,h3.1,h4.1,h5.1,h6.1,h7.1,h8.1,h9.1,h10.1,?_,h6',h9',?_⟩
 ·have:=h2.2.2;unfold tkR;omega
 ·have:=h3.2.2;unfold tkN;omega
theorem evTake_used (b:List UInt8):(evTake b).2.1≤b.length:=by
 have h:=tk_ok b
 unfold evTake
 split
 ·unfold tkE
  split
  ·exact h.2.2.2.2.2.2.1
  ·exact h.2.2.2.2.2.2.2.2.2.1
 ·exact Nat.zero_le _
theorem tkE_len (b:List UInt8):(tkE b).1.ed.key.length≤8∧(tkE b).1.ed.value.length≤12:=by
 have h:=tk_ok b
 have h7:=tStr_ok b (tkKl b).2 (tkKl b).1 keyE h.2.2.2.2.2.1 h.2.2.2.2.2.2.2.2.2.2.2.1.1
 have h10:=tStr_ok b (tkVl b).2 (tkVl b).1 valueE h.2.2.2.2.2.2.2.2.1 h.2.2.2.2.2.2.2.2.2.2.2.2.1.1
 have e7:=h7.2.2
 have e10:=h10.2.2
 have k7:=h.2.2.2.2.2.2.2.2.2.2.2.1.2
 have k10:=h.2.2.2.2.2.2.2.2.2.2.2.2.1.2
 have g7:(tkKey b).1.length≤8:=by unfold tkKey;omega
 have g10:(tkVal b).1.length≤12:=by unfold tkVal;omega
 unfold tkE
 split
 ·exact ⟨g7,Nat.zero_le _⟩
 ·exact ⟨g7,g10⟩
theorem evTake_len (b:List UInt8):(evTake b).1.ed.key.length≤8∧(evTake b).1.ed.value.length≤12:=by
 unfold evTake
 split
 ·exact tkE_len b
 ·exact ⟨Nat.zero_le _,Nat.zero_le _⟩
theorem tByte_at (p q:List UInt8) (c:UInt8) (lo hi:Int) (h:lo≤(c.toNat:Int)∧(c.toNat:Int)≤hi):tByte (p++c::q) (0,p.length) lo hi=((c.toNat:Int),(0,p.length+1)):=by
 unfold tByte
 rw [if_neg (by simp)]
 have:(p++c::q)[p.length]?=some c:=by simp
 simp only [this]
 rw [if_pos h]
theorem tNum_at (p q:List UInt8) (n:Nat) (lo hi:Int) (h:lo≤(n:Int)∧(n:Int)≤hi) (hn:n<2 ^ 63):tNum (p++(vB n++q)) (0,p.length) lo hi=((n:Int),(0,p.length+(vB n).length)):=by
 unfold tNum
 rw [if_neg (by simp)]
 have:(p++(vB n++q)).drop p.length=vB n++q:=by simp
 simp only [this,vTake_vB hn]
 rw [if_neg rM]
theorem tStr_at (p s q:List UInt8) (n:Int) (ok:List UInt8→Int) (h:n=s.length) (hk:ok s=0):tStr (p++(s++q)) (0,p.length) n ok=(s,(0,p.length+s.length)):=by
 subst h
 unfold tStr
 rw [if_neg (by simp),if_neg (by simp only [List.length_append];omega)]
 have:(List.drop p.length (p++(s++q))).take (s.length:Int).toNat=s:=by
  rw [Int.toNat_natCast,List.drop_left,List.take_left]
 rw [this,hk,Int.toNat_natCast]
 rfl
theorem Clk.ext5 {a b:Clk} (h:∀ i,i<5→a.get i=b.get i):a=b:=by
 obtain ⟨a0,a1,a2,a3,a4⟩:=a
 obtain ⟨b0,b1,b2,b3,b4⟩:=b
 have h0:=h 0 rM
 have h1:=h 1 rM
 have h2:=h 2 rM
 have h3:=h 3 rM
 have h4:=h 4 rM
 simp only [Clk.get] at h0 h1 h2 h3 h4
 subst h0 h1 h2 h3 h4
 rfl
theorem Clk.get_set5 (c:Clk) (i j:Nat) (x:Int) (hi:i<5) (hj:j<5):(c.set i x).get j=if j=i then x else c.get j:=by
 have h1:i=0∨i=1∨i=2∨i=3∨i=4:=by omega
 have h2:j=0∨j=1∨j=2∨j=3∨j=4:=by omega
 rcases h1 with rfl | rfl | rfl | rfl | rfl <;> rcases h2 with rfl | rfl | rfl | rfl | rfl <;> rfl
theorem tCtx_at (p q:List UInt8) (c:Clk) (r:Int) (hc:∀ i,i<5→0≤c.get i∧c.get i≤1048576):∀ m,m≤5→∀ z,(∃ t,clkB c r 5++q=clkB c r m++t∧z=p++(clkB c r m++t)) →
  (tCtx z r m (0,p.length)).2=(0,p.length+(clkB c r m).length)∧∀ i,i<5→(tCtx z r m (0,p.length)).1.get i=if i<m∧(i:Int)≠r then c.get i else 0
 | 0,_,z,_=>by
  refine ⟨by simp [tCtx,clkB],fun i hi=>?_⟩
  rw [if_neg rM]
  have:i=0∨i=1∨i=2∨i=3∨i=4:=by omega
  rcases this with rfl | rfl | rfl | rfl | rfl <;> rfl
 | m+1,hm,z,⟨t,ht,hz⟩=>by
  have hs:=clkB_succ c r m
  have ih:=tCtx_at p q c r hc m rM z ⟨(if (m:Int)=r then [] else vB (c.get m).toNat)++t,by rw [ht,hs,List.append_assoc],by rw [hz,hs,List.append_assoc]⟩
  rw [tCtx_succ]
  by_cases hr:(m:Int)=r
  ·rw [if_pos hr] at hs ⊢
   rw [List.append_nil] at hs
   rw [hs]
   refine ⟨ih.1,fun i hi=>?_⟩
   rw [ih.2 i hi]
   by_cases hi2:i<m∧(i:Int)≠r
   ·rw [if_pos hi2,if_pos rM]
   ·rw [if_neg hi2,if_neg rM]
  ·rw [if_neg hr] at hs ⊢
   have hcm:=hc m rM
   have hN:tNum z (tCtx z r m (0,p.length)).2 0 1048576=(c.get m,(0,p.length+(clkB c r (m+1)).length)):=by
    rw [ih.1]
    have h1:=tNum_at (p++clkB c r m) t (c.get m).toNat 0 1048576 rM rM
    rw [List.length_append,List.append_assoc,← List.append_assoc (clkB c r m),← hs,← hz] at h1
    rw [h1,hs,List.length_append,Int.toNat_of_nonneg hcm.1,Nat.add_assoc]
   rw [hN]
   refine ⟨rfl,fun i hi=>?_⟩
   show ((tCtx z r m (0,p.length)).1.set m (c.get m)).get i=_
   rw [Clk.get_set5 _ _ _ _ rM hi,ih.2 i hi]
   by_cases him:i=m
   ·subst him
    rw [if_pos rfl,if_pos ⟨by omega,hr⟩]
   ·rw [if_neg him]
    by_cases hi2:i<m∧(i:Int)≠r
    ·rw [if_pos hi2,if_pos rM]
    ·rw [if_neg hi2,if_neg rM]
theorem u8_of (k:Int) (h0:0≤k) (h1:k<256):((UInt8.ofNat k.toNat).toNat:Int)=k:=by
 have:(UInt8.ofNat k.toNat).toNat=k.toNat:=by simp;omega
 rw [this];omega
theorem evTake_bytes (e:Ev) (he:e.May) (q:List UInt8):evTake (e.bytes++q)=(e,e.bytes.length,0):=by
 have hl:=Ed.err_len he.ed
 have hr:=he.r
 have hn:=he.n
 have hh:=he.h
 have hc:=he.c
 have hcr:=he.own
 obtain ⟨b,hb⟩:∃ b,b=e.bytes++q:=⟨_,rfl⟩
 rw [← hb]
 have K:tkK b=(e.ed.kind,(0,1)):=by
  have:=tByte_at [] (UInt8.ofNat e.r.toNat::(vB e.n.toNat++(clkB e.c e.r 5++(vB e.h.toNat++(edB e.ed++q))))) (UInt8.ofNat e.ed.kind.toNat) 1 5 (by rw [u8_of _ rM rM];omega)
  rw [u8_of _ rM rM] at this
  unfold tkK
  rw [hb]
  simpa [Ev.bytes] using this
 have R:tkR b=(e.r,(0,2)):=by
  have:=tByte_at [UInt8.ofNat e.ed.kind.toNat] (vB e.n.toNat++(clkB e.c e.r 5++(vB e.h.toNat++(edB e.ed++q)))) (UInt8.ofNat e.r.toNat) 0 4 (by rw [u8_of _ rM rM];omega)
  rw [u8_of _ rM rM] at this
  unfold tkR
  rw [K,hb]
  simpa [Ev.bytes] using this
 obtain ⟨p0,hp0⟩:∃ p0,p0=[UInt8.ofNat e.ed.kind.toNat,UInt8.ofNat e.r.toNat]:=⟨_,rfl⟩
 have l0:p0.length=2:=by rw [hp0];rfl
 have b0:b=p0++(vB e.n.toNat++(clkB e.c e.r 5++(vB e.h.toNat++(edB e.ed++q)))):=by rw [hb,hp0];simp [Ev.bytes]
 have N:tkN b=(e.n,(0,2+(vB e.n.toNat).length)):=by
  have:=tNum_at p0 (clkB e.c e.r 5++(vB e.h.toNat++(edB e.ed++q))) e.n.toNat 1 1048576 rM rM
  unfold tkN
  rw [R,← l0,b0,this,Int.toNat_of_nonneg rM]
 obtain ⟨p1,hp1⟩:∃ p1,p1=p0++vB e.n.toNat:=⟨_,rfl⟩
 have l1:p1.length=2+(vB e.n.toNat).length:=by rw [hp1,List.length_append,l0]
 have b1:b=p1++(clkB e.c e.r 5++(vB e.h.toNat++(edB e.ed++q))):=by rw [b0,hp1,List.append_assoc]
 have C:=tCtx_at p1 (vB e.h.toNat++(edB e.ed++q)) e.c e.r hc 5 (Nat.le_refl _) b ⟨vB e.h.toNat++(edB e.ed++q),rfl,b1⟩
 have C1:(tkC b).2=(0,p1.length+(clkB e.c e.r 5).length):=by
  unfold tkC
  rw [N,R,← l1]
  exact C.1
 have CK:tkClk b=e.c:=by
  unfold tkClk tkC
  rw [N,R,← l1]
  refine Clk.ext5 fun i hi=>?_
  rw [Clk.get_set5 _ _ _ _ rM hi,C.2 i hi]
  by_cases h:i=e.r.toNat
  ·rw [if_pos h,h,hcr]
  ·rw [if_neg h,if_pos rM]
 obtain ⟨p2,hp2⟩:∃ p2,p2=p1++clkB e.c e.r 5:=⟨_,rfl⟩
 have l2:p2.length=p1.length+(clkB e.c e.r 5).length:=by rw [hp2,List.length_append]
 have b2:b=p2++(vB e.h.toNat++(edB e.ed++q)):=by rw [b1,hp2,List.append_assoc]
 have H:tkH b=(e.h,(0,p2.length+(vB e.h.toNat).length)):=by
  have:=tNum_at p2 (edB e.ed++q) e.h.toNat 1 16777216 rM rM
  unfold tkH
  rw [C1,← l2]
  conv=>lhs;rw [b2]
  rw [this,Int.toNat_of_nonneg rM]
 obtain ⟨p3,hp3⟩:∃ p3,p3=p2++vB e.h.toNat:=⟨_,rfl⟩
 have l3:p3.length=p2.length+(vB e.h.toNat).length:=by rw [hp3,List.length_append]
 obtain ⟨t,ht⟩:∃ t,t=(if e.ed.kind=1∨e.ed.kind=2 then [] else UInt8.ofNat e.ed.label.toNat::sB e.ed.value)++q:=⟨_,rfl⟩
 have b3:b=p3++(UInt8.ofNat e.ed.key.length::(e.ed.key++t)):=by rw [b2,hp3,ht];simp [edB,sB]
 have KL:tkKl b=((e.ed.key.length:Int),(0,p3.length+1)):=by
  have e1:((UInt8.ofNat e.ed.key.length).toNat:Int)=e.ed.key.length:=by
   have:=u8_of (e.ed.key.length:Int) rM rM
   simpa using this
  have:=tByte_at p3 (e.ed.key++t) (UInt8.ofNat e.ed.key.length) 1 8 (by rw [e1];omega)
  unfold tkKl
  rw [H,← l3,b3,this,e1]
 obtain ⟨p4,hp4⟩:∃ p4,p4=p3++[UInt8.ofNat e.ed.key.length]:=⟨_,rfl⟩
 have l4:p4.length=p3.length+1:=by rw [hp4,List.length_append];rfl
 have b4:b=p4++(e.ed.key++t):=by rw [b3,hp4];simp
 have hke:keyE e.ed.key=0:=by
  have:=he.ed
  unfold Ed.err at this
  split at this
  ·omega
  ·split at this
   ·exact absurd this (by assumption)
   ·rename_i h;exact Classical.not_not.1 h
 have KEY:tkKey b=(e.ed.key,(0,p4.length+e.ed.key.length)):=by
  have:=tStr_at p4 e.ed.key t e.ed.key.length keyE rfl hke
  unfold tkKey
  rw [KL,← l4,b4]
  exact this
 have LB:e.bytes=p4++e.ed.key++(if e.ed.kind=1∨e.ed.kind=2 then [] else UInt8.ofNat e.ed.label.toNat::sB e.ed.value):=by
  rw [hp4,hp3,hp2,hp1,hp0];simp [Ev.bytes,edB,sB]
 by_cases hs:e.ed.kind=1∨e.ed.kind=2
 ·have hx:=hl.2.2.2.2.1 hs
  have hE:tkE b=(e,(0,e.bytes.length)):=by
   unfold tkE
   rw [K,R,N,CK,H,KEY,if_pos hs]
   have e1:(⟨e.ed.kind,e.ed.key,0,[]⟩:Ed)=e.ed:=by rw [← hx.1,← hx.2]
   simp only [e1]
   rw [LB,if_pos hs,List.append_nil,List.length_append]
  unfold evTake
  rw [hE]
  rfl
 ·rw [if_neg hs] at ht LB
  obtain ⟨p5,hp5⟩:∃ p5,p5=p4++e.ed.key:=⟨_,rfl⟩
  have l5:p5.length=p4.length+e.ed.key.length:=by rw [hp5,List.length_append]
  have b5:b=p5++(UInt8.ofNat e.ed.label.toNat::(sB e.ed.value++q)):=by rw [b4,hp5,ht,List.append_assoc];rfl
  have hlb:0≤e.ed.label∧e.ed.label≤1:=by omega
  have LBb:tkLb b=(e.ed.label,(0,p5.length+1)):=by
   have:=tByte_at p5 (sB e.ed.value++q) (UInt8.ofNat e.ed.label.toNat) 0 1 (by rw [u8_of _ rM rM];omega)
   unfold tkLb
   rw [KEY,← l5,b5,this,u8_of _ rM rM]
  obtain ⟨p6,hp6⟩:∃ p6,p6=p5++[UInt8.ofNat e.ed.label.toNat]:=⟨_,rfl⟩
  have l6:p6.length=p5.length+1:=by rw [hp6,List.length_append];rfl
  have b6:b=p6++(UInt8.ofNat e.ed.value.length::(e.ed.value++q)):=by rw [b5,hp6];simp [sB]
  have hv1:=hl.2.2.2.2.2 hs
  have hv2:=hl.2.2.2.1
  have VL:tkVl b=((e.ed.value.length:Int),(0,p6.length+1)):=by
   have e1:((UInt8.ofNat e.ed.value.length).toNat:Int)=e.ed.value.length:=by
    have:=u8_of (e.ed.value.length:Int) rM rM
    simpa using this
   have:=tByte_at p6 (e.ed.value++q) (UInt8.ofNat e.ed.value.length) 1 12 (by rw [e1];omega)
   unfold tkVl
   rw [LBb,← l6,b6,this,e1]
  obtain ⟨p7,hp7⟩:∃ p7,p7=p6++[UInt8.ofNat e.ed.value.length]:=⟨_,rfl⟩
  have l7:p7.length=p6.length+1:=by rw [hp7,List.length_append];rfl
  have b7:b=p7++(e.ed.value++q):=by rw [b6,hp7];simp
  have hve:valueE e.ed.value=0:=by
   unfold valueE
   rw [if_pos rM]
  have VAL:tkVal b=(e.ed.value,(0,p7.length+e.ed.value.length)):=by
   have:=tStr_at p7 e.ed.value q e.ed.value.length valueE rfl hve
   unfold tkVal
   rw [VL,← l7,b7]
   exact this
  have hE:tkE b=(e,(0,e.bytes.length)):=by
   unfold tkE
   rw [K,R,N,CK,H,KEY,if_neg hs,LBb,VAL]
   have:e.bytes.length=p7.length+e.ed.value.length:=by
    rw [LB,hp7,hp6,hp5];simp [sB];omega
   rw [this]
  unfold evTake
  rw [hE]
  rfl
end
section
def earlyOk (ops:Array Oper) (kd:Nat→Nat) (m:Nat):Bool:=(List.range m).all fun j=>!loudK (kd j) || (List.range m).all fun k=>!Nat.beq (kd k) 1 || Nat.blt k j
def MixE (P:Program) (n:Nat) (ops:Array Oper) (kd:Nat→Nat) (Lb Le:List Assn) (Z:(Nat→Value)→List Assn→Prop):List (Nat×Oper)→(Nat→Value)→List Assn→Prop
 | [],f,L=>(∃ D F w a,Agree D n a f∧Sats w L F)→∃ L2,Sub L2 L∧Z f L2
 | (i,o)::l,f,L=>(∃ D F w a,Agree D n a f∧Sats w L F) →
  if wantF ops f o=true then
   if kd i=0 then ∃ v,Val P o f Lb v∧MixE P n ops kd Lb Le Z l (updo f o.dst v) L
   else if kd i=1 then ∃ v,Val P o f Le v∧MixE P n ops kd Lb Le Z l (updo f o.dst v) L
   else ∀ F w0 w,Rest w0 w→Sats w L F→LW P o f w fun v w'=>∃ L2,Fac Lb L2∧Rest w0 w'∧Sats w' L2 F∧MixE P n ops kd Lb Le Z l (updo f o.dst v) L2
  else MixE P n ops kd Lb Le Z l (updo f o.dst undef) L
section
variable {P:Program} {n:Nat} {ops:Array Oper} {kd:Nat→Nat} {Lb Le:List Assn} {m:Nat} {Z:(Nat→Value)→List Assn→Prop}
theorem MixE.tail {x:Nat×Oper} {l l':List (Nat×Oper)} (hl:∀ f L,Fac Lb L→MixE P n ops kd Lb Le Z l f L→MixE P n ops kd Lb Le Z l' f L) {f:Nat→Value} {L:List Assn} (hf:Fac Lb L) (h:MixE P n ops kd Lb Le Z (x::l) f L):MixE P n ops kd Lb Le Z (x::l') f L:=by
 obtain ⟨i,o⟩:=x
 intro W
 have hb:=h W
 split
 ·rename_i hw
  rw [if_pos hw] at hb
  split
  ·rename_i hk;rw [if_pos hk] at hb
   obtain ⟨v,hv,hm⟩:=hb
   exact ⟨v,hv,hl _ _ hf hm⟩
  ·rename_i hk;rw [if_neg hk] at hb
   split
   ·rename_i hk2;rw [if_pos hk2] at hb
    obtain ⟨v,hv,hm⟩:=hb
    exact ⟨v,hv,hl _ _ hf hm⟩
   ·rename_i hk2;rw [if_neg hk2] at hb
    exact fun F w0 w r s=>(hb F w0 w r s).mono fun v w' ⟨L2,h1,h2,h3,h4⟩=>⟨L2,h1,h2,h3,hl _ _ h1 h4⟩
 ·rename_i hw
  rw [if_neg hw] at hb
  exact hl _ _ hf hb
theorem MixE.wit:∀ {l:List (Nat×Oper)} {f:Nat→Value} {L:List Assn},((∃ D F w a,Agree D n a f∧Sats w L F)→MixE P n ops kd Lb Le Z l f L)→MixE P n ops kd Lb Le Z l f L
 | [],_,_,h=>fun W=>h W W
 | (_,_)::_,_,_,h=>fun W=>h W W
theorem MixE.swap {k i:Nat} {p o:Oper} {l:List (Nat×Oper)} (hsp:∀ cs b,p.op≠.select cs b) (hso:∀ cs b,o.op≠.select cs b) (hap:p.apart ops o=true) (hdp:dstOk n p.dst=true) (hdo:dstOk n o.dst=true)
  (hkk:kd i=0∨kd k=0∨(kd i=1∧kd k=1)) {f:Nat→Value} {L:List Assn} (hf:Fac Lb L) (h:MixE P n ops kd Lb Le Z ((k,p)::(i,o)::l) f L):MixE P n ops kd Lb Le Z ((i,o)::(k,p)::l) f L:=by
 obtain ⟨a1,a2,a3⟩:=Oper.apart_spec hap
 have ep:∀ f v,execOp (evalF (updo f o.dst v)) p=execOp (evalF f) p:=fun f v=>exec_updo f p hsp o.dst v a3
 have eo:∀ f v,execOp (evalF (updo f p.dst v)) o=execOp (evalF f) o:=fun f v=>exec_updo f o hso p.dst v a1
 have wp:∀ f v,wantF ops (updo f o.dst v) p=wantF ops f p:=fun f v=>want_updo f p o.dst v a3
 have wo:∀ f v,wantF ops (updo f p.dst v) o=wantF ops f o:=fun f v=>want_updo f o p.dst v a1
 have cm:∀ f v u,updo (updo f p.dst v) o.dst u=updo (updo f o.dst u) p.dst v:=fun f v u=>updo_comm f v u a2
 rintro ⟨D,F,w,a,ag,s⟩
 have hb:=h ⟨D,F,w,a,ag,s⟩
 obtain ⟨H,sH,_⟩:=hf w F s
 -- o, with whatever p left in its slot, where p leaves the memory as it was
 have go:∀ (vp:Value) (hback:∀ u L,MixE P n ops kd Lb Le Z l (updo (updo f p.dst vp) o.dst u) L→MixE P n ops kd Lb Le Z ((k,p)::l) (updo f o.dst u) L),
   MixE P n ops kd Lb Le Z ((i,o)::l) (updo f p.dst vp) L→(if wantF ops f o=true then
    if kd i=0 then ∃ v,Val P o f Lb v∧MixE P n ops kd Lb Le Z ((k,p)::l) (updo f o.dst v) L
    else if kd i=1 then ∃ v,Val P o f Le v∧MixE P n ops kd Lb Le Z ((k,p)::l) (updo f o.dst v) L
    else ∀ F w0 w,Rest w0 w→Sats w L F→LW P o f w fun v w'=>∃ L2,Fac Lb L2∧Rest w0 w'∧Sats w' L2 F∧MixE P n ops kd Lb Le Z ((k,p)::l) (updo f o.dst v) L2
   else MixE P n ops kd Lb Le Z ((k,p)::l) (updo f o.dst undef) L):=fun vp hback hm=>by
  obtain ⟨a',ag'⟩:=agree_updo ag hdp vp
  have hb2:=hm ⟨D,F,w,a',ag',s⟩
  rw [wo] at hb2
  split
  ·rename_i hw
   rw [if_pos hw] at hb2
   split
   ·rename_i hk;rw [if_pos hk] at hb2
    obtain ⟨v,hv,hm⟩:=hb2
    exact ⟨v,(Val.congr (eo _ _)).1 hv,hback _ _ hm⟩
   ·rename_i hk;rw [if_neg hk] at hb2
    split
    ·rename_i hk2;rw [if_pos hk2] at hb2
     obtain ⟨v,hv,hm⟩:=hb2
     exact ⟨v,(Val.congr (eo _ _)).1 hv,hback _ _ hm⟩
    ·rename_i hk2;rw [if_neg hk2] at hb2
     intro F' w0 w' r s'
     have:=hb2 F' w0 w' r s'
     rw [LW.congr (eo _ _)] at this
     exact this.mono fun v w' ⟨L2,h1,h2,h3,h4⟩=>⟨L2,h1,h2,h3,hback _ _ h4⟩
  ·rename_i hw
   rw [if_neg hw] at hb2
   exact hback _ _ hb2
 by_cases hwp:wantF ops f p=true
 case neg =>
  rw [if_neg hwp] at hb
  exact go undef (fun u L hm _=>by rw [wp,if_neg hwp,← cm];exact hm) hb
 case pos =>
  rw [if_pos hwp] at hb
  by_cases k0:kd k=0
  ·rw [if_pos k0] at hb
   obtain ⟨vp,hvp,hb⟩:=hb
   exact go vp (fun u L hm _=>by
    rw [wp,if_pos hwp,if_pos k0]
    exact ⟨vp,(Val.congr (ep _ _)).2 hvp,by rw [← cm];exact hm⟩) hb
  ·rw [if_neg k0] at hb
   by_cases k1:kd k=1
   ·rw [if_pos k1] at hb
    obtain ⟨vp,hvp,hb⟩:=hb
    exact go vp (fun u L hm _=>by
     rw [wp,if_pos hwp,if_neg k0,if_pos k1]
     exact ⟨vp,(Val.congr (ep _ _)).2 hvp,by rw [← cm];exact hm⟩) hb
   ·-- p acts: o only reads what stays
    have hk:kd i=0:=by rcases hkk with x | x | x <;> first | exact x | exact absurd x k0 | exact absurd x.2 k1
    rw [if_neg k1] at hb
    obtain ⟨u1,w1,L1,hf1,hr1,s1,hm1⟩:=(hb F w w (Rest.refl w) s).some
    obtain ⟨a',ag'⟩:=agree_updo ag hdp u1
    have hb2:=hm1 ⟨D,F,w1,a',ag',s1⟩
    rw [wo] at hb2
    split
    ·rename_i hw
     rw [if_pos hw,if_pos hk] at hb2
     try rw [if_pos hk]
     obtain ⟨v,hv,_⟩:=hb2
     have hv':=(Val.congr (eo _ _)).1 hv
     refine ⟨v,hv',fun W=>?_⟩
     rw [wp,if_pos hwp,if_neg k0,if_neg k1]
     intro F' w0' w' r' s'
     rw [LW.congr (ep _ _)]
     refine (hb F' w0' w' r' s').mono fun u w2 ⟨L2,h1,h2,h3,h4⟩=>⟨L2,h1,h2,h3,MixE.wit ?_⟩
     rintro ⟨D',F2,w3,a2,ag2,s2⟩
     obtain ⟨a3,ag3⟩:=agree_updo ag hdp u
     have hb3:=h4 ⟨D,F2,w3,a3,ag3,s2⟩
     rw [wo,if_pos hw,if_pos hk] at hb3
     obtain ⟨v2,hv2,hm⟩:=hb3
     obtain ⟨H',sH',_⟩:=h1 w3 F2 s2
     rw [← cm,Val.unique hv' ((Val.congr (eo _ _)).1 hv2) sH']
     exact hm
    ·rename_i hw
     rw [if_neg hw] at hb2
     intro W
     rw [wp,if_pos hwp,if_neg k0,if_neg k1]
     intro F' w0' w' r' s'
     rw [LW.congr (ep _ _)]
     refine (hb F' w0' w' r' s').mono fun u w2 ⟨L2,h1,h2,h3,h4⟩=>⟨L2,h1,h2,h3,MixE.wit ?_⟩
     rintro ⟨D',F2,w3,a2,ag2,s2⟩
     obtain ⟨a3,ag3⟩:=agree_updo ag hdp u
     have hb3:=h4 ⟨D,F2,w3,a3,ag3,s2⟩
     rw [wo,if_neg hw] at hb3
     rw [← cm]
     exact hb3
theorem MixE.front {i:Nat} {o:Oper} {l2:List (Nat×Oper)} (hso:∀ cs b,o.op≠.select cs b) (hdo:dstOk n o.dst=true):∀ (l1:List (Nat×Oper)),(∀ x∈l1,(∀ cs b,x.2.op≠.select cs b)∧x.2.apart ops o=true∧dstOk n x.2.dst=true∧(kd i=0∨kd x.1=0∨(kd i=1∧kd x.1=1))) →
  ∀ {f:Nat→Value} {L:List Assn},Fac Lb L→MixE P n ops kd Lb Le Z (l1++(i,o)::l2) f L→MixE P n ops kd Lb Le Z ((i,o)::(l1++l2)) f L
 | [],_,f,L,_,h=>h
 | (k,p)::l1,hall,f,L,hf,h=>by
  obtain ⟨h1,h2,h3,h4⟩:=hall (k,p) (List.mem_cons_self ..)
  refine MixE.swap h1 hso h2 h3 hdo h4 hf ?_
  exact MixE.tail (fun f L hf h=>MixE.front hso hdo l1 (fun x hx=>hall x (List.mem_cons_of_mem _ hx)) hf h) hf h
theorem wpAny_mixE {Q:Post} {D:List Deferred} {F:Frag} {w0:World} {f0:Nat→Value} {ws:Nat→Bool} (hok:mixOk n ops kd m=true) (hel:earlyOk ops kd m=true) (hws:∀ d,d∈writesL ops.toList→ws d=true) :
  ∀ (c:Nat) (l:List (Nat×Oper)) (listed:Array Bool) (a:Act) (w:World) (f:Nat→Value) (L:List Assn),l.length=c→Inv ops m listed l→Here D n F w0 f0 ws a w f L→Fac Lb L→((∃ x∈l,kd x.1=1)→Fac Le L) →
   MixE P n ops kd Lb Le (fun f L=>ExL P n ops (ops.toList.drop m) Q f L) l f L→wpAny P .any ops (Lift D n F w0 f0 ws Q) (l.length+(ops.size - m)) listed a w:=by
 have hk0:=hok
 simp only [mixOk,Bool.and_eq_true,List.all_eq_true,List.mem_range,Bool.or_eq_true,Bool.not_eq_true'] at hk0
 obtain ⟨⟨⟨⟨⟨c1,c2⟩,c3⟩,c4⟩,c5⟩,c6⟩:=hk0
 have hm:=Nat.le_of_ble_eq_true c6
 have hsel:∀ (j:Nat) (o:Oper),ops[j]?=some o→∀ cs b,o.op≠.select cs b:=fun j o h cs b=>Region.noSelect_spec c1 j o cs b h
 have hlex:∀ j o,ops[j]?=some o→∀ e∈o.after,Region.binds .any e=true→e.on<j:=fun j o ho e he hb=>by
  have:=c2 j (Array.getElem?_eq_some_iff.1 ho).1
  rw [ho] at this
  simp only [Bool.and_eq_true] at this
  have h1:=this.1
  rw [← Array.all_toList,List.all_eq_true] at h1
  have h2:=h1 e (Array.mem_toList_iff.2 he)
  rw [hb] at h2
  simp at h2
  exact h2
 have hdst:∀ (j:Nat) (o:Oper),ops[j]?=some o→dstOk n o.dst=true:=fun j o ho=>by
  have:=c2 j (Array.getElem?_eq_some_iff.1 ho).1
  rw [ho] at this
  simp only [Bool.and_eq_true] at this
  exact this.2
 have hwr:∀ (j:Nat) (o:Oper),ops[j]?=some o→∀ t,o.dst=some t→ws t=true:=fun j o ho t ht =>
  hws t (mem_writesL_iff.2 ⟨o,Array.mem_toList_iff.2 (Array.mem_of_getElem? ho),ht⟩)
 have hloud:∀ j,j<m→loudK (kd j)=true→∀ k,k<j→kd k=0∨waits ops 4 j k=true∨∃ x,x<j∧k<x∧loudK (kd x)=true:=fun j hj hl k hk=>by
  rcases c4 j hj with h | h
  ·rw [hl] at h;cases h
  ·rcases h k hk with (h | h) | h
   ·exact .inl (Nat.eq_of_beq_eq_true h)
   ·exact .inr (.inl h)
   ·simp only [List.any_eq_true,List.mem_range,Bool.and_eq_true] at h
    obtain ⟨x,hx,hkx,hlx⟩:=h
    exact .inr (.inr ⟨x,hx,by simpa using hkx,hlx⟩)
 have htail1:m<ops.size→∀ k,k<m→edgeOn ops m k=true:=fun h2 k hk=>by
  rcases c5 m h2 with h | h
  ·have:=Nat.le_of_ble_eq_true h;omega
  ·rw [Nat.beq_refl] at h
   exact List.all_eq_true.1 h k (List.mem_range.2 hk)
 have htail:∀ j,m<j→j<ops.size→edgeOn ops j (j - 1)=true:=fun j h1 h2=>by
  rcases c5 j h2 with h | h
  ·have:=Nat.le_of_ble_eq_true h;omega
  ·have:Nat.beq j m=false:=by cases hq:Nat.beq j m with | false=>rfl | true=>(have:=Nat.eq_of_beq_eq_true hq;omega)
   rw [this] at h
   exact h
 have hearly:∀ j,j<m→loudK (kd j)=true→∀ k,k<m→kd k=1→k<j:=fun j hj hl k hk h1=>by
  unfold earlyOk at hel
  simp only [List.all_eq_true,List.mem_range,Bool.or_eq_true,Bool.not_eq_true'] at hel
  rcases hel j hj with h | h
  ·rw [hl] at h;cases h
  ·rcases h k hk with h | h
   ·have:Nat.beq (kd k) 1=true:=by rw [h1];rfl
    rw [this] at h;cases h
   ·simpa using h
 intro c
 induction c with
 | zero =>
  intro l listed a w f L hc I H hf hE hM
  have hl:l=[]:=List.eq_nil_of_length_eq_zero hc
  subst hl
  obtain ⟨L2,hs,hx⟩:=hM ⟨D,F,w,a,H.2.1,H.2.2.1⟩
  have hw:=hx D F w0 f0 ws a w ⟨H.1,H.2.1,hs w F H.2.2.1,H.2.2.2⟩ (fun d hd=>by
   obtain ⟨o,ho,hod⟩:=mem_writesL_iff.1 hd
   exact hws d (mem_writesL_iff.2 ⟨o,List.mem_of_mem_drop ho,hod⟩))
  have:=wpAny_tail (P:=P) (ops:=ops) (Q:=Lift D n F w0 f0 ws Q) (ops.toList.drop m) m listed a w (fun j=>by simp) (by simp;omega) I.size (fun i hi=>by
   cases hb:listed.getD i false with
   | true=>rfl
   | false =>
    have hit:listed.getD i true=false:=by
     have hs2:i<listed.size:=by rw [I.size];omega
     simp [Array.getD,hs2] at hb ⊢;exact hb
    obtain ⟨o,ho⟩:=I.all i hi hit
    cases ho) I.back hlex htail hw
  simpa using this
 | succ c ih =>
  intro l listed a w f L hc I H hf hE hM
  obtain ⟨x0,lt,rfl⟩:∃ x0 lt,l=x0::lt:=by
   cases l with
   | nil=>simp at hc
   | cons x0 lt=>exact ⟨x0,lt,rfl⟩
  obtain ⟨h01,h02,h03⟩:=I.mem x0 (List.mem_cons_self ..)
  have hlow:∀ k,k<x0.1→listed.getD k false=true:=fun k hk=>by
   cases hb:listed.getD k false with
   | true=>rfl
   | false =>
    have hs2:k<listed.size:=by rw [I.size];omega
    have hit:listed.getD k true=false:=by simp [Array.getD,hs2] at hb ⊢;exact hb
    obtain ⟨o,ho⟩:=I.all k rM hit
    rcases List.mem_cons.1 ho with e | e
    ·rw [← e] at hk;simp at hk
    ·have:=(List.pairwise_cons.1 I.inc).1 _ e
     simp at this;omega
  have hr0:x0.1∈Region.ready .any ops listed:=mem_ready.2 ⟨h03,x0.2,h01,fun e he hb=>hlow _ (hlex _ _ h01 e he hb)⟩
  have hlen:(x0::lt).length+(ops.size - m)=lt.length+(ops.size - m)+1:=by simp;omega
  rw [hlen]
  refine ⟨fun h0=>(by rw [h0] at hr0;cases hr0),fun i hi=>?_⟩
  obtain ⟨hli,o,ho,hall⟩:=mem_ready.1 hi
  have hisz:=(Array.getElem?_eq_some_iff.1 ho).1
  have him:i<m:=by
   rcases Nat.lt_or_ge i m with h | h
   ·exact h
   ·exfalso
    rcases Nat.eq_or_lt_of_le h with h | h
    ·subst h
     obtain ⟨o2,ho2,e,he,hbn,hek⟩:=edgeOn_spec.1 (htail1 hisz x0.1 rM)
     rw [ho] at ho2;cases ho2
     have h1:=hall e he hbn
     rw [hek] at h1
     rw [getD_ft h1] at h03
     cases h03
    ·obtain ⟨o2,ho2,e,he,hbn,hek⟩:=edgeOn_spec.1 (htail i h hisz)
     rw [ho] at ho2;cases ho2
     have h1:=hall e he hbn
     rw [hek] at h1
     have:=I.back (i - 1) rM rM
     rw [getD_ft h1] at this
     cases this
  obtain ⟨o',hmem⟩:=I.all i him hli
  obtain ⟨hoo,_,_⟩:=I.mem _ hmem
  simp only at hoo
  rw [ho] at hoo
  cases hoo
  obtain ⟨l1,l2,hl⟩:=mem_split_l hmem
  rw [hl] at I hM hc hE
  have hinc:=I.inc
  rw [List.pairwise_append,List.pairwise_cons] at hinc
  have hM':=MixE.front (hsel i o ho) (hdst i o ho) l1 (fun y hy=>by
   obtain ⟨y1,y2,y3⟩:=I.mem y (List.mem_append_left _ hy)
   have hlt:y.1<i:=hinc.2.2 y hy (i,o) (List.mem_cons_self ..)
   have hne:edgeOn ops i y.1=false:=by
    cases hb:edgeOn ops i y.1 with
    | false=>rfl
    | true =>
     obtain ⟨o2,ho2,e,he,hbn,hek⟩:=edgeOn_spec.1 hb
     rw [ho] at ho2;cases ho2
     have h1:=hall e he hbn
     rw [hek] at h1
     rw [getD_ft h1] at y3
     cases y3
   refine ⟨hsel _ _ y1,?_,hdst _ _ y1,?_⟩
   ·have:=c3 i him y.1 hlt
    rw [hne] at this
    rcases this with h | h
    ·cases h
    ·unfold apartAt at h
     rw [y1,ho] at h
     exact h
   ·by_cases k0:kd y.1=0
    ·exact .inr (.inl k0)
    ·cases hlk:loudK (kd i) with
     | false =>
      unfold loudK at hlk
      split at hlk
      ·rename_i h;exact .inl h
      ·rename_i h
       refine .inr (.inr ⟨h,?_⟩)
       refine Classical.byContradiction fun hy1=>?_
       have hyl:loudK (kd y.1)=true:=by
        unfold loudK
        split
        ·rename_i h2;exact absurd h2 k0
        ·rename_i h2;exact absurd h2 hy1
        ·rfl
       have:=hearly y.1 y2 hyl i him h
       omega
      ·cases hlk
     | true =>
      have:=loud_listed I hloud (i - y.1) i y.1 (Nat.le_refl _) hlt him hlk k0 (.inr hi)
      rw [getD_ft this] at y3
      cases y3) hf hM
  have I':=I.step hi
  have hlc:(l1++l2).length=c:=by simp at hc ⊢;omega
  have hlt2:lt.length=(l1++l2).length:=by
   have:(x0::lt).length=(l1++(i,o)::l2).length:=by rw [hl]
   simp at this ⊢;omega
  rw [hlt2]
  have hb:=hM' ⟨D,F,w,a,H.2.1,H.2.2.1⟩
  have hwant:Region.wanted o (yielded ops a.tmps)=wantF ops f o:=by rw [H.2.1.yield ops];rfl
  unfold wpOp
  rw [ho]
  simp only
  rw [hwant]
  have next:∀ (v:Value) (w':World) (L':List Assn),Rest w w'→Sats w' L' F→Fac Lb L'→((∃ x∈l1++l2,kd x.1=1)→Fac Le L')→MixE P n ops kd Lb Le (fun f L=>ExL P n ops (ops.toList.drop m) Q f L) (l1++l2) (updo f o.dst v) L' →
    wpAny P .any ops (Lift D n F w0 f0 ws Q) ((l1++l2).length+(ops.size - m)) (listed.setIfInBounds i true) (a.put o.dst v) w':=fun v w' L' hr hs hf' he' hm' =>
   ih (l1++l2) _ _ w' _ L' hlc I' (H.puto hr hs (hdst i o ho) (hwr i o ho) v) hf' he' hm'
  have hE2:(∃ x∈l1++l2,kd x.1=1)→Fac Le L:=fun ⟨x,hx,h1⟩=>hE ⟨x,by
   rcases List.mem_append.1 hx with hx | hx
   ·exact List.mem_append_left _ hx
   ·exact List.mem_append_right _ (List.mem_cons_of_mem _ hx),h1⟩
  split
  ·rename_i hw
   rw [if_pos hw] at hb
   refine .inl ?_
   unfold Oper.wp
   rw [H.2.1.eval]
   by_cases k0:kd i=0
   ·rw [if_pos k0] at hb
    obtain ⟨v,hv,hm'⟩:=hb
    obtain ⟨HH,sH,hback⟩:=hf w F H.2.2.1
    rw [hv HH w sH]
    exact next v w L (Rest.refl w) H.2.2.1 hf hE2 hm'
   ·rw [if_neg k0] at hb
    by_cases k1:kd i=1
    ·rw [if_pos k1] at hb
     obtain ⟨v,hv,hm'⟩:=hb
     obtain ⟨HH,sH,hback⟩:=hE ⟨(i,o),by simp,k1⟩ w F H.2.2.1
     rw [hv HH w sH]
     exact next v w L (Rest.refl w) H.2.2.1 hf hE2 hm'
    ·rw [if_neg k1] at hb
     have hli2:loudK (kd i)=true:=by
      unfold loudK
      split
      ·rename_i h2;exact absurd h2 k0
      ·rename_i h2;exact absurd h2 k1
      ·rfl
     have hno:¬ ∃ x∈l1++l2,kd x.1=1:=fun ⟨x,hx,h1⟩=>by
      obtain ⟨_,x2,x3⟩:=I'.mem x hx
      have hxi:=hearly i him hli2 x.1 x2 h1
      have:=loud_listed I hloud (i - x.1) i x.1 (Nat.le_refl _) hxi him hli2 (by rw [h1];decide) (.inr hi)
      rw [Go.getD_set_ne true rM] at x3
      rw [getD_ft this] at x3
      cases x3
     have hlw:=hb F w0 w H.1 H.2.2.1
     have fin:∀ v w',(∃ L2,Fac Lb L2∧Rest w0 w'∧Sats w' L2 F∧MixE P n ops kd Lb Le (fun f L=>ExL P n ops (ops.toList.drop m) Q f L) (l1++l2) (updo f o.dst v) L2) →
       wpAny P .any ops (Lift D n F w0 f0 ws Q) ((l1++l2).length+(ops.size - m)) (listed.setIfInBounds i true) (a.put o.dst v) w':=by
      rintro v w' ⟨L2,h1,h2,h3,h4⟩
      have hp:=Here.puto (w':=w) H (Rest.refl w) H.2.2.1 (hdst i o ho) (hwr i o ho) v
      exact ih (l1++l2) _ _ w' _ L2 hlc I' ⟨h2,hp.2.1,h3,hp.2.2.2⟩ h1 (fun h=>(hno h).elim) h4
     unfold LW at hlw
     generalize (execOp (evalF f) o).run P w=r at hlw ⊢
     cases r with
     | halt x w'=>exact hlw.elim
     | ok nx w' =>
      cases nx with
      | value v=>exact fin v w' hlw
      | skip=>exact fin undef w' hlw
      | enter k args =>
       show Calls P k args w' _
       exact Calls.mono hlw fun e w2 ⟨v,he,hv⟩=>by subst he;exact fin v w2 hv
      | row r args =>
       show Rows P r args w' _
       exact Rows.mono hlw fun v w2 hv=>fin v w2 hv
      | _=>exact hlw.elim
  ·rename_i hw
   rw [if_neg hw] at hb
   exact next undef w L (Rest.refl w) H.2.2.1 hf hE2 hb
theorem Ex.mixE {Q:Post} {f:Nat→Value} {L:List Assn} {id:Nat} (m:Nat) (kd:Nat→Nat) (Lb Le:List Assn) (hm:P.follows .mixedOrders=true) (hok:mixOk n ops kd m=true) (hel:earlyOk ops kd m=true) (hf:Fac Lb L) (he:Fac Le L)
  (h:MixE P n ops kd Lb Le (fun f L=>ExL P n ops (ops.toList.drop m) Q f L) (idx 0 (ops.toList.take m)) f L):Ex P n (.region id ops true) Q f L:=fun D F w0 f0 ws a w H hc=>by
 have hk0:=hok
 simp only [mixOk,Bool.and_eq_true] at hk0
 have hms:=Nat.le_of_ble_eq_true hk0.2
 refine wp_region_any hm ?_
 have hl:(idx 0 (ops.toList.take m)).length=m:=by
  have:∀ (l:List Oper) k,(idx k l).length=l.length:=by
   intro l
   induction l with
   | nil=>intro k;rfl
   | cons o l ih=>intro k;simp [idx,ih]
  rw [this];simp;omega
 have:=wpAny_mixE (P:=P) (Q:=Q) (F:=F) (w0:=w0) (f0:=f0) (ws:=ws) hok hel hc m (idx 0 (ops.toList.take m)) (Array.replicate ops.size false) a w.drew f L hl ⟨idx_inc,?_,?_,?_,by simp,?_⟩ ⟨H.1,H.2.1,Sats.drew H.2.2.1,H.2.2.2⟩ hf (fun _=>he) h
 ·rw [hl,show m+(ops.size - m)=ops.size by omega] at this
  exact this
 ·intro x hx
  obtain ⟨h1,h2,h3⟩:=idx_mem hx
  simp at h2 h3
  rw [List.getElem?_take] at h3
  split at h3
  ·refine ⟨by simpa using h3,by omega,?_⟩
   simp [Array.getD];omega
  ·cases h3
 ·intro i hi _
  have hs:i<ops.size:=by omega
  refine ⟨ops[i],?_⟩
  have:=idx_get (k:=0) (l:=ops.toList.take m) (i:=i) (o:=ops[i]) (by rw [List.getElem?_take,if_pos hi];simp [hs])
  simpa using this
 ·intro i _ hi
  simp [Array.getD,hi]
 ·intro x o ho hx
  exfalso
  have hs:=(Array.getElem?_eq_some_iff.1 ho).1
  simp [Array.getD,hs] at hx
end
section
variable {P:Program} {n:Nat} {ops:Array Oper} {kd:Nat→Nat} {Lb Le:List Assn} {Z:(Nat→Value)→List Assn→Prop} {f:Nat→Value} {L:List Assn} {i:Nat} {o:Oper} {l:List (Nat×Oper)}
def meEnd (P:Program) (n:Nat) (kd:Nat→Nat) (ops:Array Oper) (Lb Le:List Assn) (Z:(Nat→Value)→List Assn→Prop) (l:List (Nat×Oper)):Post
 | .normal,f,L=>Fac Lb L∧MixE P n ops kd Lb Le Z l f L
 | _,_,_=>False
theorem me_nil (h:Z f L):MixE P n ops kd Lb Le Z [] f L:=fun _=>⟨L,Sub.refl L,h⟩
theorem me_val {v:Value} {d:Nat} (hk:kd i=0) (hg:o.guard=none) (ho:o.dst=some d) (hv:Val P o f Lb v) (h:MixE P n ops kd Lb Le Z l (upd f d v) L):MixE P n ops kd Lb Le Z ((i,o)::l) f L:=fun _=>by
 have hw:wantF ops f o=true:=wanted_none hg
 rw [if_pos hw,if_pos hk]
 exact ⟨v,hv,by rw [ho];exact h⟩
theorem me_early {v:Value} {d:Nat} (hk:kd i=1) (hg:o.guard=none) (ho:o.dst=some d) (hv:Val P o f Le v) (h:MixE P n ops kd Lb Le Z l (upd f d v) L):MixE P n ops kd Lb Le Z ((i,o)::l) f L:=fun _=>by
 have hw:wantF ops f o=true:=wanted_none hg
 rw [if_pos hw,if_neg (by rw [hk];decide),if_pos hk]
 exact ⟨v,hv,by rw [ho];exact h⟩
theorem me_act (hk:loudK (kd i)=true) (hg:o.guard=none) (hdo:dstOk n o.dst=true) (h:ExL P n ops [o] (meEnd P n kd ops Lb Le Z l) f L):MixE P n ops kd Lb Le Z ((i,o)::l) f L:=fun ⟨D,_,_,a,ag,_⟩=>by
 have hw:wantF ops f o=true:=wanted_none hg
 have k0:kd i≠0:=fun e=>by rw [e] at hk;simp [loudK] at hk
 have k1:kd i≠1:=fun e=>by rw [e] at hk;simp [loudK] at hk
 rw [if_pos hw,if_neg k0,if_neg k1]
 intro F w0 w r s
 have h1:=h D F w0 f (fun _=>true) a w ⟨r,ag,s,fun t ht=>by cases ht⟩ (fun _ _=>rfl)
 unfold wpList at h1
 rw [if_pos (wanted_none hg)] at h1
 have fin:∀ (a2:Act) (w2:World),Lift D n F w0 f (fun _=>true) (meEnd P n kd ops Lb Le Z l) .normal a2 w2→∃ f2 L2,Agree D n a2 f2∧Rest w0 w2∧Sats w2 L2 F∧Fac Lb L2∧MixE P n ops kd Lb Le Z l f2 L2:=fun a2 w2 ⟨f2,L2,⟨r2,ag2,s2,_⟩,q1,q2⟩=>⟨f2,L2,ag2,r2,s2,q1,q2⟩
 have same:∀ (v:Value) (f2:Nat→Value),Agree D n (a.put o.dst v) f2→f2=updo f o.dst v:=fun v f2 ag2=>by
  funext t
  rw [← ag2.2.2 t,(ag.puto hdo v).2.2 t]
 have fin2:∀ (v:Value) (w2:World),Lift D n F w0 f (fun _=>true) (meEnd P n kd ops Lb Le Z l) .normal (a.put o.dst v) w2→∃ L2,Fac Lb L2∧Rest w0 w2∧Sats w2 L2 F∧MixE P n ops kd Lb Le Z l (updo f o.dst v) L2:=fun v w2 hl=>by
  obtain ⟨f2,L2,ag2,r2,s2,hf2,hm2⟩:=fin _ _ hl
  rw [same v f2 ag2] at hm2
  exact ⟨L2,hf2,r2,s2,hm2⟩
 rcases h1 with h1 | ⟨_,a2,w2,_,_,_,hq⟩
 ·unfold Oper.wp at h1
  rw [ag.eval] at h1
  unfold LW
  generalize (execOp (evalF f) o).run P w=rr at h1 ⊢
  cases rr with
  | halt x w' =>
   cases x with
   | panic v=>obtain ⟨_,_,_,hq⟩:=h1;exact hq.elim
   | _=>exact h1.elim
  | ok nx w' =>
   cases nx with
   | value v=>exact fin2 v w' h1
   | skip=>exact fin2 undef w' h1
   | defer dd =>
    obtain ⟨f2,L2,hh,_⟩:=(show Lift D n F w0 f (fun _=>true) (meEnd P n kd ops Lb Le Z l) .normal _ _ from h1)
    have:=hh.2.1.1
    have e2:=ag.1
    cases hd:o.dst <;> simp [Act.put,hd,e2] at this
   | enter k args =>
    show Calls P k args w' _
    refine Calls.mono h1 fun e w2 he=>?_
    cases e with
    | returned v=>exact ⟨v,rfl,fin2 v w2 he⟩
    | panicked c=>obtain ⟨_,_,_,hq⟩:=he;exact hq.elim
    | outgrown=>obtain ⟨_,_,_,_,_,hq⟩:=he;exact hq.elim
   | row r args =>
    show Rows P r args w' _
    exact Rows.mono h1 fun v w2 hv=>fin2 v w2 hv
   | _=>exact h1.elim
 ·exact hq.elim
theorem meEnd_n (hf:Fac Lb L) (h:MixE P n ops kd Lb Le Z l f L):meEnd P n kd ops Lb Le Z l .normal f L:=⟨hf,h⟩
def kdE (is:List Nat) (ops:Array Oper) (i:Nat):Nat:=match is.any (Nat.beq i) with
 | true=>1
 | false=>kdOf ops i
theorem Ex.mixEs {Q:Post} {id:Nat} (m:Nat) (is:List Nat) (Lb:List Assn) (hm:P.follows .mixedOrders=true) (hok:mixOk n ops (kdE is ops) m=true) (hel:earlyOk ops (kdE is ops) m=true) (hf:Fac Lb L)
  (h:MixE P n ops (kdE is ops) Lb L (fun f L=>ExL P n ops (ops.toList.drop m) Q f L) (idx 0 (ops.toList.take m)) f L):Ex P n (.region id ops true) Q f L :=
 Ex.mixE m _ Lb L hm hok hel hf (Fac.refl L) h
end
theorem me {G G':Prop} (k:G') (h:Hold G'→G:=by (intro k;(repeat' (first | refine me_val rJ rJ rJ rV ?_ | refine me_early rJ rJ rJ rV ?_ | refine me_nil ?_));exact k.out)):G:=h ⟨k⟩
end
section
set_option maxRecDepth 20000 attribute [local irreducible] Ex ExL Fn thn inb rnd fin meet Tab Mix mxEnd Val Sats RdT Rd RowT Row Blk Sub Fac ResV RVal Evs subs subs3 Hid Capd
section
@[reducible] def fn1 (g4 g3 g1:Nat):Value:=.func (.func 319) #[] #[.pointer (some ⟨g4,0,none⟩),.pointer (some ⟨g3,0,none⟩),.pointer (some ⟨g1,0,none⟩)]
@[reducible] def fn2 (g4 g3 g1:Nat):Value:=.func (.func 320) #[] #[.pointer (some ⟨g4,0,none⟩),.pointer (some ⟨g1,0,none⟩),.pointer (some ⟨g3,0,none⟩)]
@[reducible] def fn3 (g4 g3 g1:Nat):Value:=.func (.func 321) #[] #[.pointer (some ⟨g4,0,none⟩),.pointer (some ⟨g1,0,none⟩),.pointer (some ⟨g3,0,none⟩)]
theorem tkK_F (g4 g3 g1:Nat) (v0:Value) (b:List UInt8) (M:List Assn) (o0:v0.oneCell'=true) (hr:RdT M v0 b) (hb:b.length≤1000000000) :
  Fn Tryz.prog 319 #[.int .i64 1,.int .i64 5,.pointer (some ⟨g4,0,none⟩),.pointer (some ⟨g3,0,none⟩),.pointer (some ⟨g1,0,none⟩)] (Rst g4 g3 g1 (0,0) v0 M) fun r L'=>r=.int .i64 (tkK b).1∧L'=Rst g4 g3 g1 (tkK b).2 v0 M:=etake1_F 1 5 g4 g3 g1 (0,0) v0 b M o0 hr hb (Nat.zero_le _)
theorem tkR_F (g4 g3 g1:Nat) (v0:Value) (b:List UInt8) (M:List Assn) (o0:v0.oneCell'=true) (hr:RdT M v0 b) (hb:b.length≤1000000000) :
  Fn Tryz.prog 319 #[.int .i64 0,.int .i64 4,.pointer (some ⟨g4,0,none⟩),.pointer (some ⟨g3,0,none⟩),.pointer (some ⟨g1,0,none⟩)] (Rst g4 g3 g1 (tkK b).2 v0 M) fun r L'=>r=.int .i64 (tkR b).1∧L'=Rst g4 g3 g1 (tkR b).2 v0 M:=etake1_F 0 4 g4 g3 g1 (tkK b).2 v0 b M o0 hr hb (tk_ok b).1
theorem tkN_F (g4 g3 g1:Nat) (v0:Value) (b:List UInt8) (M:List Assn) (o0:v0.oneCell'=true) (hr:RdT M v0 b) (hb:b.length≤1000000000) :
  Fn Tryz.prog 320 #[.int .i64 1,.int .i64 1048576,.pointer (some ⟨g4,0,none⟩),.pointer (some ⟨g1,0,none⟩),.pointer (some ⟨g3,0,none⟩)] (Rst g4 g3 g1 (tkR b).2 v0 M) fun r L'=>r=.int .i64 (tkN b).1∧L'=Rst g4 g3 g1 (tkN b).2 v0 M:=etake2_F 1 1048576 g4 g3 g1 (tkR b).2 v0 b M o0 hr hb (tk_ok b).2.1 rM rM
theorem tkH_F (g4 g3 g1:Nat) (v0:Value) (b:List UInt8) (M:List Assn) (o0:v0.oneCell'=true) (hr:RdT M v0 b) (hb:b.length≤1000000000) :
  Fn Tryz.prog 320 #[.int .i64 1,.int .i64 16777216,.pointer (some ⟨g4,0,none⟩),.pointer (some ⟨g1,0,none⟩),.pointer (some ⟨g3,0,none⟩)] (Rst g4 g3 g1 (tkC b).2 v0 M) fun r L'=>r=.int .i64 (tkH b).1∧L'=Rst g4 g3 g1 (tkH b).2 v0 M:=etake2_F 1 16777216 g4 g3 g1 (tkC b).2 v0 b M o0 hr hb (tk_ok b).2.2.2.1 rM rM
theorem tkKl_F (g4 g3 g1:Nat) (v0:Value) (b:List UInt8) (M:List Assn) (o0:v0.oneCell'=true) (hr:RdT M v0 b) (hb:b.length≤1000000000) :
  Fn Tryz.prog 319 #[.int .i64 1,.int .i64 8,.pointer (some ⟨g4,0,none⟩),.pointer (some ⟨g3,0,none⟩),.pointer (some ⟨g1,0,none⟩)] (Rst g4 g3 g1 (tkH b).2 v0 M) fun r L'=>r=.int .i64 (tkKl b).1∧L'=Rst g4 g3 g1 (tkKl b).2 v0 M:=etake1_F 1 8 g4 g3 g1 (tkH b).2 v0 b M o0 hr hb (tk_ok b).2.2.2.2.1
theorem tkLb_F (g4 g3 g1:Nat) (v0:Value) (b:List UInt8) (M:List Assn) (o0:v0.oneCell'=true) (hr:RdT M v0 b) (hb:b.length≤1000000000) :
  Fn Tryz.prog 319 #[.int .i64 0,.int .i64 1,.pointer (some ⟨g4,0,none⟩),.pointer (some ⟨g3,0,none⟩),.pointer (some ⟨g1,0,none⟩)] (Rst g4 g3 g1 (tkKey b).2 v0 M) fun r L'=>r=.int .i64 (tkLb b).1∧L'=Rst g4 g3 g1 (tkLb b).2 v0 M:=etake1_F 0 1 g4 g3 g1 (tkKey b).2 v0 b M o0 hr hb (tk_ok b).2.2.2.2.2.2.1
theorem tkVl_F (g4 g3 g1:Nat) (v0:Value) (b:List UInt8) (M:List Assn) (o0:v0.oneCell'=true) (hr:RdT M v0 b) (hb:b.length≤1000000000) :
  Fn Tryz.prog 319 #[.int .i64 1,.int .i64 12,.pointer (some ⟨g4,0,none⟩),.pointer (some ⟨g3,0,none⟩),.pointer (some ⟨g1,0,none⟩)] (Rst g4 g3 g1 (tkLb b).2 v0 M) fun r L'=>r=.int .i64 (tkVl b).1∧L'=Rst g4 g3 g1 (tkVl b).2 v0 M:=etake1_F 1 12 g4 g3 g1 (tkLb b).2 v0 b M o0 hr hb (tk_ok b).2.2.2.2.2.2.2.1
theorem tkKey_F (g4 g3 g1:Nat) (v0:Value) (b:List UInt8) (M:List Assn) (o0:v0.oneCell'=true) (hr:RdT M v0 b) (hb:b.length≤1000000000) :
  Fn Tryz.prog 321 #[.int .i64 (tkKl b).1,.func (.func 222) #[] #[],.pointer (some ⟨g4,0,none⟩),.pointer (some ⟨g1,0,none⟩),.pointer (some ⟨g3,0,none⟩)] (Rst g4 g3 g1 (tkKl b).2 v0 M) fun r L'=>r=.string (S (tkKey b).1)∧L'=Rst g4 g3 g1 (tkKey b).2 v0 M:=by
 have hn:=(tk_ok b).2.2.2.2.2.2.2.2.2.2.2.1
 exact etake3_F (tkKl b).1 222 keyE Tryz.call222 (fun s L hs=>key_fnE s L rM) g4 g3 g1 (tkKl b).2 v0 b M o0 hr hb (tk_ok b).2.2.2.2.2.1 rM
theorem tkVal_F (g4 g3 g1:Nat) (v0:Value) (b:List UInt8) (M:List Assn) (o0:v0.oneCell'=true) (hr:RdT M v0 b) (hb:b.length≤1000000000) :
  Fn Tryz.prog 321 #[.int .i64 (tkVl b).1,.func (.func 224) #[] #[],.pointer (some ⟨g4,0,none⟩),.pointer (some ⟨g1,0,none⟩),.pointer (some ⟨g3,0,none⟩)] (Rst g4 g3 g1 (tkVl b).2 v0 M) fun r L'=>r=.string (S (tkVal b).1)∧L'=Rst g4 g3 g1 (tkVal b).2 v0 M:=by
 have hn:=(tk_ok b).2.2.2.2.2.2.2.2.2.2.2.2.1
 exact etake3_F (tkVl b).1 224 valueE Tryz.call224 (fun s L hs=>value_fnE s L rM) g4 g3 g1 (tkVl b).2 v0 b M o0 hr hb (tk_ok b).2.2.2.2.2.2.2.2.1 rM
section
variable {P:Program} {n:Nat} {ops:Array Oper} {Q:Post} {f:Nat→Value} {L:List Assn} {rest:List Oper} {ty:TypeId} {pos:String} {af:Array Edge}
theorem st_storeH (i:Nat) {t bt:TypeId} {x y:Operand} {g o:Nat} {cs cs':List Value} {v:Value} {L':List Assn} (hx:evalF f x=.pointer (some ⟨g,o,none⟩)) (hi:L[i]?=some (Blk g bt cs)) (hy:evalF f y=v) (h1:v.oneCell'=true) (hm:P.cellsOf t=1) (ho:o<cs.length)
  (hc:cs.set o v=cs') (hL:L.set i (Blk g bt cs')=L') (h:ExL P n ops rest Q f L'):ExL P n ops (⟨none,.store t x y,ty,pos,af,none⟩::rest) Q f L :=
 st_store1 i hx hy h1 hi hm (Nat.ble_eq_true_of_le ho) (by rw [hc,hL]) h
end
def evC (b:List UInt8) (i:Nat):Ev:=⟨(tkR b).1,(tkN b).1,(tCtx b (tkR b).1 i (tkN b).2).1,0,⟨(tkK b).1,[],0,[]⟩⟩
theorem ev_setC (e:Ev) (i:Nat) (x:Int) (hi:i<5) (o:Nat) (ho:o=2+i):(Rep.cells e).set o (.int .i64 x)=Rep.cells (⟨e.r,e.n,e.c.set i x,e.h,e.ed⟩:Ev):=by
 subst ho
 have:i=0∨i=1∨i=2∨i=3∨i=4:=by omega
 rcases this with rfl | rfl | rfl | rfl | rfl <;> rfl
theorem efields_F (g4 g3 g1:Nat) (v0:Value) (b:List UInt8) (M:List Assn) (o0:v0.oneCell'=true) (hr:RdT M v0 b) (hb:b.length≤1000000000) :
  Fn Tryz.prog 322 #[fn1 g4 g3 g1,fn2 g4 g3 g1,fn3 g4 g3 g1] (Rst g4 g3 g1 (0,0) v0 M) fun r L'=>r=.agg (Rep.cells (tkE b).1).toArray∧L'=Rst g4 g3 g1 (tkE b).2 v0 M:=by
 obtain ⟨k1,k2,k3,k4,k5,k6,k7,k8,k9,k10,k11,k12,k13,k14⟩:=tk_ok b
 refine Fn.of_ex Tryz.func322 rfl Tryz.ntmps322 rfl ?_
 (refine rn ?_;(repeat (first | intro (g:Nat) | intro h)))
 refine st_callC [3,3,3] (xs:=[.const (.int .i64 1),.const (.int .i64 5)]) (fs:=[]) (us:=[.pointer (some ⟨g4,0,none⟩),.pointer (some ⟨g3,0,none⟩),.pointer (some ⟨g1,0,none⟩)]) (vs:=[.int .i64 1,.int .i64 5]) rJ rJ Tryz.call319 rE rJ (tkK_F g4 g3 g1 v0 b _ o0 rD hb) ?_
 rintro _ _ ⟨rfl,rfl⟩
 (refine rn ?_;(repeat (first | intro (g:Nat) | intro h)))
 refine st_callC [] (xs:=[.const (.int .i64 0),.const (.int .i64 4)]) (fs:=[]) (us:=[.pointer (some ⟨g4,0,none⟩),.pointer (some ⟨g3,0,none⟩),.pointer (some ⟨g1,0,none⟩)]) (vs:=[.int .i64 0,.int .i64 4]) rJ rJ Tryz.call319 rE rJ (tkR_F g4 g3 g1 v0 b _ o0 rD hb) ?_
 rintro _ _ ⟨rfl,rfl⟩
 (refine rn ?_;(repeat (first | intro (g:Nat) | intro h)))
 refine st_callC [] (xs:=[.const (.int .i64 1),.const (.int .i64 1048576)]) (fs:=[]) (us:=[.pointer (some ⟨g4,0,none⟩),.pointer (some ⟨g1,0,none⟩),.pointer (some ⟨g3,0,none⟩)]) (vs:=[.int .i64 1,.int .i64 1048576]) rJ rJ Tryz.call320 rE rJ (tkN_F g4 g3 g1 v0 b _ o0 rD hb) ?_
 rintro _ _ ⟨rfl,rfl⟩
 (refine rn ?_;(repeat (first | intro (g:Nat) | intro h)))
 rename_i g6
 revert g
 intro gE
 refine Ex.reord [3,3,3] rE ?_
 refine Ex.loop [16] (fun q vs L'=>∃ i:Nat,i≤5∧q=5 - i∧vs=[.int .i64 i]∧L'=Rst g4 g3 g1 (tCtx b (tkR b).1 i (tkN b).2).2 v0 (Blk gE 80 (Rep.cells (evC b i))::Blk g6 80 (Rep.cells Ev.zero)::M)) 5 ⟨0,by omega,rfl,rfl,rfl⟩ ?_
 rintro q vs g0 L1 ⟨i,hi,rfl,rfl,rfl⟩
 refine Ex.keep [0,1,2,6,7,16] rG (fun gk=>?_)
 by_cases hlt:i<5
 ·have hs:=tCtx_succ b (tkR b).1 i (tkN b).2
  have hok:=tCtx_ok b (tkR b).1 (tkN b).2 k3 i
  by_cases hir:(i:Int)=(evC b i).r
  ·rw [if_pos (show (i:Int)=(tkR b).1 from hir)] at hs
   have hE:evC b (i+1)=evC b i:=by unfold evC;rw [hs]
   (refine rn ?_;intros)
   rw [← hE,← hs]
   exact rnd_n ⟨5 - (i+1),_,by omega,rB,i+1,by omega,rfl,lcons (vint rM) rfl,rfl⟩
  ·rw [if_neg (show ¬ (i:Int)=(tkR b).1 from hir)] at hs
   (refine rn ?_;intros)
   refine st_callC [] (xs:=[.const (.int .i64 0),.const (.int .i64 1048576)]) (fs:=[]) (us:=[.pointer (some ⟨g4,0,none⟩),.pointer (some ⟨g1,0,none⟩),.pointer (some ⟨g3,0,none⟩)]) (vs:=[.int .i64 0,.int .i64 1048576]) rJ rJ Tryz.call320 rE rJ (etake2_F 0 1048576 g4 g3 g1 (tCtx b (tkR b).1 i (tkN b).2).2 v0 b _ o0 rD hb hok.1 rM rM) ?_
   rintro _ _ ⟨rfl,rfl⟩
   rw [show (tNum b (tCtx b (tkR b).1 i (tkN b).2).2 0 1048576).2=(tCtx b (tkR b).1 (i+1) (tkN b).2).2 by rw [hs]]
   have hE:evC b (i+1)=⟨(evC b i).r,(evC b i).n,(evC b i).c.set i (tNum b (tCtx b (tkR b).1 i (tkN b).2).2 0 1048576).1,(evC b i).h,(evC b i).ed⟩:=by unfold evC;rw [hs]
   (refine rn ?_;intros)
   refine st_storeH 3 rJ rJ rE rN rJ (by show 2+(i:Int).toNat * 1<12;omega) ((ev_setC _ i _ hlt _ (by show 2+(i:Int).toNat * 1=2+i;omega)).trans (by rw [← hE])) (by simp only [List.set_cons_succ,List.set_cons_zero];rfl) ?_
   (refine rn ?_;intros)
   exact rnd_n ⟨5 - (i+1),_,by omega,rB,i+1,by omega,rfl,lcons (vint rM) rfl,rfl⟩
 ·have h5:i=5:=by omega
  subst h5
  have er:0≤(evC b 5).r∧(evC b 5).r≤4:=k11
  have en:0≤(evC b 5).n∧(evC b 5).n≤1048576:=k14
  (refine rn ?_;intros)
  refine st_storeH 3 rJ rJ rE rN rJ (by show 2+(evC b 5).r.toNat * 1<12;omega) (ev_setC _ (evC b 5).r.toNat _ rM _ (by show 2+(evC b 5).r.toNat * 1=2+(evC b 5).r.toNat;omega)) (by simp only [List.set_cons_succ,List.set_cons_zero];rfl) ?_
  rw [show (tCtx b (tkR b).1 5 (tkN b).2).2=(tkC b).2 from rfl]
  (refine rn ?_;intros)
  refine st_callC [] (xs:=[.const (.int .i64 1),.const (.int .i64 16777216)]) (fs:=[]) (us:=[.pointer (some ⟨g4,0,none⟩),.pointer (some ⟨g1,0,none⟩),.pointer (some ⟨g3,0,none⟩)]) (vs:=[.int .i64 1,.int .i64 16777216]) rJ rJ Tryz.call320 rE rJ (tkH_F g4 g3 g1 v0 b _ o0 rD hb) ?_
  rintro _ _ ⟨rfl,rfl⟩
  (refine rn ?_;intros)
  (try simp only [List.set_cons_succ,List.set_cons_zero])
  refine st_callC [] (xs:=[.const (.int .i64 1),.const (.int .i64 8)]) (fs:=[]) (us:=[.pointer (some ⟨g4,0,none⟩),.pointer (some ⟨g3,0,none⟩),.pointer (some ⟨g1,0,none⟩)]) (vs:=[.int .i64 1,.int .i64 8]) rJ rJ Tryz.call319 rE rJ (tkKl_F g4 g3 g1 v0 b _ o0 rD hb) ?_
  rintro _ _ ⟨rfl,rfl⟩
  (refine rn ?_;intros)
  (try simp only [List.set_cons_succ,List.set_cons_zero])
  refine st_callC [] (xs:=[.tmp 41,.func 222]) (fs:=[]) (us:=[.pointer (some ⟨g4,0,none⟩),.pointer (some ⟨g1,0,none⟩),.pointer (some ⟨g3,0,none⟩)]) (vs:=[.int .i64 (tkKl b).1,.func (.func 222) #[] #[]]) rJ rJ Tryz.call321 rE rJ (tkKey_F g4 g3 g1 v0 b _ o0 rD hb) ?_
  rintro _ _ ⟨rfl,rfl⟩
  (refine rn ?_;intros)
  (try simp only [List.set_cons_succ,List.set_cons_zero])
  refine st_callIs [] rJ Tryz.call244 rJ rJ (elong_F (tkK b).1 _) ?_
  rintro _ _ ⟨rfl,rfl⟩
  by_cases hs:(tkK b).1=1∨(tkK b).1=2
  ·rw [show decide ((tkK b).1≠1∧(tkK b).1≠2)=false from decide_eq_false rM]
   have hE:tkE b=(⟨(tkR b).1,(tkN b).1,tkClk b,(tkH b).1,⟨(tkK b).1,(tkKey b).1,0,[]⟩⟩,(tkKey b).2):=by unfold tkE;rw [if_pos hs]
   rw [hE]
   exact re0
  ·rw [show decide ((tkK b).1≠1∧(tkK b).1≠2)=true from decide_eq_true rM]
   have hE:tkE b=(⟨(tkR b).1,(tkN b).1,tkClk b,(tkH b).1,⟨(tkK b).1,(tkKey b).1,(tkLb b).1,(tkVal b).1⟩⟩,(tkVal b).2):=by unfold tkE;rw [if_neg hs]
   rw [hE]
   (refine rn ?_;intros)
   refine st_callC [] (xs:=[.const (.int .i64 0),.const (.int .i64 1)]) (fs:=[]) (us:=[.pointer (some ⟨g4,0,none⟩),.pointer (some ⟨g3,0,none⟩),.pointer (some ⟨g1,0,none⟩)]) (vs:=[.int .i64 0,.int .i64 1]) rJ rJ Tryz.call319 rE rJ (tkLb_F g4 g3 g1 v0 b _ o0 rD hb) ?_
   rintro _ _ ⟨rfl,rfl⟩
   (refine rn ?_;intros)
   (try simp only [List.set_cons_succ,List.set_cons_zero])
   refine st_callC [] (xs:=[.const (.int .i64 1),.const (.int .i64 12)]) (fs:=[]) (us:=[.pointer (some ⟨g4,0,none⟩),.pointer (some ⟨g3,0,none⟩),.pointer (some ⟨g1,0,none⟩)]) (vs:=[.int .i64 1,.int .i64 12]) rJ rJ Tryz.call319 rE rJ (tkVl_F g4 g3 g1 v0 b _ o0 rD hb) ?_
   rintro _ _ ⟨rfl,rfl⟩
   (refine rn ?_;intros)
   (try simp only [List.set_cons_succ,List.set_cons_zero])
   refine st_callC [] (xs:=[.tmp 52,.func 224]) (fs:=[]) (us:=[.pointer (some ⟨g4,0,none⟩),.pointer (some ⟨g1,0,none⟩),.pointer (some ⟨g3,0,none⟩)]) (vs:=[.int .i64 (tkVl b).1,.func (.func 224) #[] #[]]) rJ rJ Tryz.call321 rE rJ (tkVal_F g4 g3 g1 v0 b _ o0 rD hb) ?_
   rintro _ _ ⟨rfl,rfl⟩
   (refine rn ?_;intros)
   (try simp only [List.set_cons_succ,List.set_cons_zero])
   (refine fr ?_)
   exact ⟨_,rB,rfl,rfl⟩
theorem efields_F0 (g4 g3 g1:Nat) (v0:Value) (b:List UInt8) (M:List Assn) (o0:v0.oneCell'=true) (hr:RdT M v0 b) (hb:b.length≤1000000000) :
  Fn Tryz.prog 322 #[fn1 g4 g3 g1,fn2 g4 g3 g1,fn3 g4 g3 g1] (Blk g4 57 [.int .i64 0]::Blk g3 3 [.int .i64 0]::Blk g1 45 [v0]::M) fun r L'=>r=.agg (Rep.cells (tkE b).1).toArray∧L'=Rst g4 g3 g1 (tkE b).2 v0 M:=efields_F g4 g3 g1 v0 b M o0 hr hb
attribute [local irreducible] MixE meEnd
theorem etake_F (v0:Value) (b:List UInt8) (M:List Assn) (hr:RdT M v0 b) (o0:v0.oneCell'=true) (hb:b.length≤1000000000) :
  Fn Tryz.prog 290 #[v0] M fun r L'=>r=.tuple #[.agg (Rep.cells (evTake b).1).toArray,.int .i64 (evTake b).2.1,.int .i64 (evTake b).2.2]∧L'=M:=by
 refine Fn.of_ex Tryz.func290 rfl Tryz.ntmps290 rfl ?_
 (refine rn ?_;(repeat (first | intro (g:Nat) | intro h)))
 rename_i h1 h2 h3
 revert g
 intro h4
 refine st_callIs [2,2,3] rJ Tryz.call322 rE rJ (efields_F0 h4 h3 h1 v0 b _ o0 rD hb) ?_
 rintro _ _ ⟨rfl,rfl⟩
 by_cases he:(tkE b).2.1=0
 ·have hT:evTake b=((tkE b).1,(tkE b).2.2,0):=by unfold evTake;rw [if_pos he]
  rw [hT]
  (refine rn ?_;intros)
  refine Ex.reord [3] rE ?_
  (refine Ex.mixEs 3 [0] (Rst h4 h3 h1 (tkE b).2 v0 M) rfl rQ rQ rF ?_;(refine me ?_;intros))
  (refine me_act rJ rJ rJ ?_;(first | refine st_store1_ 0 rJ rJ rE rN rJ rJ rE rE ?_ | refine st_storeW_ 0 rJ rJ rJ rC rJ rJ rJ rE ?_ | refine st_storeR 0 rJ rJ rJ rE rJ rJ rE ?_);refine ExL.nil ?_;refine meEnd_n rF ?_;(refine me ?_;intros))
  exact re0
 ·have hT:evTake b=(Ev.zero,0,(tkE b).2.1):=by unfold evTake;rw [if_neg he]
  rw [hT]
  (refine rn ?_;intros)
  refine Ex.reord [2,3] rE ?_
  (refine Ex.mixA 4 (Blk h4 57 [.int .i64 (tkE b).2.1]::Blk h1 45 [v0]::M) rfl rQ rF ?_;(refine mn ?_;intros))
  (refine mx_act rJ rJ rJ ?_;(first | refine st_store1_ 1 rJ rJ rE rN rJ rJ rE rE ?_ | refine st_storeW_ 1 rJ rJ rJ rC rJ rJ rJ rE ?_ | refine st_storeR 1 rJ rJ rJ rE rJ rJ rE ?_);refine mw ?_;intros)
  (refine mx_act rJ rJ rJ ?_;(first | refine st_store1_ 0 rJ rJ rE rN rJ rJ rE rE ?_ | refine st_storeW_ 0 rJ rJ rJ rC rJ rJ rJ rE ?_ | refine st_storeR 0 rJ rJ rJ rE rJ rJ rE ?_);refine mw ?_;intros)
  exact re0
end
end
section
structure Rcd where
 kind:Int
 r:Int
 upto:Int
 c:Clk
 l:List Ev
deriving DecidableEq
def Rcd.zero:Rcd:=⟨0,0,0,Clk.zero,[]⟩
def kUpto (k:Int):Prop:=k=3∨k=4
def kEvs (k:Int):Prop:=k=1∨k=2∨k=5∨k=4
def kClk (k:Int):Prop:=k=6
instance (k:Int):Decidable (kUpto k):=by unfold kUpto;infer_instance
instance (k:Int):Decidable (kEvs k):=by unfold kEvs;infer_instance
instance (k:Int):Decidable (kClk k):=by unfold kClk;infer_instance
structure Rcd.May (x:Rcd):Prop where
 k:1≤x.kind∧x.kind≤6
 r:0≤x.r∧x.r<5
 u:0≤x.upto∧x.upto≤1048576
 m:x.l.length≤4096
 c:∀ i,i<5→0≤x.c.get i∧x.c.get i≤1048576
 nu:¬ kUpto x.kind→x.upto=0
 nc:¬ kClk x.kind→x.c=Clk.zero
 ne:¬ kEvs x.kind→x.l=[]
 l:∀ e∈x.l,e.May
 one:x.kind=1→x.l.length=1
def clkA (c:Clk) (m:Nat):List UInt8:=(List.range m).flatMap fun i=>vB (c.get i).toNat
theorem clkA_succ (c:Clk) (m:Nat):clkA c (m+1)=clkA c m++vB (c.get m).toNat:=by
 unfold clkA
 rw [List.range_succ,List.flatMap_append]
 simp
def evsB (l:List Ev):List UInt8:=l.flatMap Ev.bytes
theorem evsB_cons (e:Ev) (l:List Ev):evsB (e::l)=e.bytes++evsB l:=by simp [evsB]
theorem evsB_app (a b:List Ev):evsB (a++b)=evsB a++evsB b:=by simp [evsB]
def Rcd.bHead (x:Rcd):List UInt8:=[UInt8.ofNat x.kind.toNat,UInt8.ofNat x.r.toNat]
def Rcd.bUpto (x:Rcd):List UInt8:=if kUpto x.kind then vB x.upto.toNat else []
def Rcd.bClk (x:Rcd):List UInt8:=if kClk x.kind then clkA x.c 5 else []
def Rcd.bEvs (x:Rcd):List UInt8:=if kEvs x.kind then vB x.l.length++evsB x.l else []
def Rcd.body (x:Rcd):List UInt8:=x.bHead++x.bUpto++x.bClk++x.bEvs
def Rcd.bytes (x:Rcd):List UInt8:=vB (crcSeal x.body).length++crcSeal x.body
def rNum (b:List UInt8):Option (Int×List UInt8):=match vTake b with
 | .error _=>none
 | .ok (n,k)=>if 1048576<n then none else some (n,b.drop k)
def rEvsN:Nat→List UInt8→Option (List Ev×List UInt8)
 | 0,b=>some ([],b)
 | n+1,b=>if (evTake b).2.2=0 then match rEvsN n (b.drop (evTake b).2.1) with
   | none=>none
   | some (l,q)=>some ((evTake b).1::l,q)
  else none
def rList (b:List UInt8):Option (List Ev×List UInt8):=match rNum b with
 | none=>none
 | some (n,q)=>if 4096<n then none else rEvsN n.toNat q
def rClkN:Nat→List UInt8→Option (Clk×List UInt8)
 | 0,b=>some (Clk.zero,b)
 | m+1,b=>match rClkN m b with
  | none=>none
  | some (c,q)=>match rNum q with
   | none=>none
   | some (n,q2)=>some (c.set m n,q2)
def rcRead (b:List UInt8):Option Rcd:=match b with
 | k::r::q =>
  if 1≤(k.toNat:Int)∧(k.toNat:Int)≤6 then
   match (if kUpto k.toNat then rNum q else some (0,q)) with
   | none=>none
   | some (u,q1)=>match (if kClk k.toNat then rClkN 5 q1 else some (Clk.zero,q1)) with
    | none=>none
    | some (c,q2)=>match (if kEvs k.toNat then rList q2 else some ([],q2)) with
     | none=>none
     | some (l,_)=>some ⟨k.toNat,r.toNat,u,c,l⟩
  else none
 | _=>none
open Classical in
noncomputable def rcFirst (b:List UInt8):Option (Rcd×Nat):=match vTake b with
 | .error _=>none
 | .ok (n,k)=>if b.length<k+n then none else match crcOpen ((b.take (k+n)).drop k) with
  | none=>none
  | some body=>match rcRead body with
   | none=>none
   | some x=>if x.May∧x.bytes=b.take (k+n) then some (x,k+n) else none
theorem rNum_at (n:Int) (h:0≤n∧n≤1048576) (q:List UInt8):rNum (vB n.toNat++q)=some (n,q):=by
 unfold rNum
 rw [vTake_vB rM]
 simp only
 rw [if_neg rM]
 simp
 omega
theorem rEvsN_at (q:List UInt8):∀ l:List Ev,(∀ e∈l,e.May)→rEvsN l.length (evsB l++q)=some (l,q)
 | [],_=>rfl
 | e::l,h=>by
  have ih:=rEvsN_at q l (fun x hx=>h x (List.mem_cons_of_mem _ hx))
  have ht:=evTake_bytes e (h e (List.mem_cons_self ..)) (evsB l++q)
  rw [List.length_cons,evsB_cons,List.append_assoc]
  unfold rEvsN
  rw [ht]
  simp only [List.drop_left,ih,if_pos]
theorem rList_at (q:List UInt8) (l:List Ev) (h:∀ e∈l,e.May) (hl:l.length≤4096):rList (vB l.length++(evsB l++q))=some (l,q):=by
 unfold rList
 have:=rNum_at (l.length:Int) rM (evsB l++q)
 rw [Int.toNat_natCast] at this
 rw [this]
 simp only
 rw [if_neg rM,Int.toNat_natCast,rEvsN_at q l h]
theorem rClkN_at (c:Clk) (hc:∀ i,i<5→0≤c.get i∧c.get i≤1048576) (q:List UInt8):∀ m,m≤5→∀ t,∃ d,rClkN m (clkA c m++t)=some (d,t)∧∀ i,i<5→d.get i=if i<m then c.get i else 0
 | 0,_,t=>⟨Clk.zero,rfl,fun i hi=>by
  rw [if_neg rM]
  have:i=0∨i=1∨i=2∨i=3∨i=4:=by omega
  rcases this with rfl | rfl | rfl | rfl | rfl <;> rfl⟩
 | m+1,hm,t=>by
  obtain ⟨d,hd,hg⟩:=rClkN_at c hc q m rM (vB (c.get m).toNat++t)
  refine ⟨d.set m (c.get m),?_,fun i hi=>?_⟩
  ·unfold rClkN
   rw [clkA_succ,List.append_assoc,hd]
   simp only
   rw [rNum_at _ (hc m rM)]
  ·rw [Clk.get_set5 _ _ _ _ rM hi,hg i hi]
   by_cases him:i=m
   ·subst him;rw [if_pos rfl,if_pos rM]
   ·rw [if_neg him]
    by_cases h2:i<m
    ·rw [if_pos h2,if_pos rM]
    ·rw [if_neg h2,if_neg rM]
theorem rClk_at (c:Clk) (hc:∀ i,i<5→0≤c.get i∧c.get i≤1048576) (t:List UInt8):rClkN 5 (clkA c 5++t)=some (c,t):=by
 obtain ⟨d,hd,hg⟩:=rClkN_at c hc t 5 (Nat.le_refl _) t
 rw [hd,show d=c from Clk.ext5 fun i hi=>by rw [hg i hi,if_pos hi]]
theorem rcRead_body (x:Rcd) (h:x.May):rcRead x.body=some x:=by
 have hk:=h.k
 have hr:=h.r
 have ek:=u8_of x.kind rM rM
 have er:=u8_of x.r rM rM
 have hb:x.body=UInt8.ofNat x.kind.toNat::UInt8.ofNat x.r.toNat::(x.bUpto++(x.bClk++x.bEvs)):=by
  unfold Rcd.body Rcd.bHead
  simp
 rw [hb]
 unfold rcRead
 simp only [ek,er]
 rw [if_pos hk]
 have h1:(if kUpto x.kind then rNum (x.bUpto++(x.bClk++x.bEvs)) else some (0,x.bUpto++(x.bClk++x.bEvs)))=some (x.upto,x.bClk++x.bEvs):=by
  unfold Rcd.bUpto
  by_cases hu:kUpto x.kind
  ·rw [if_pos hu,if_pos hu,rNum_at _ h.u]
  ·rw [if_neg hu,if_neg hu,h.nu hu,List.nil_append]
 rw [h1]
 simp only
 have h2:(if kClk x.kind then rClkN 5 (x.bClk++x.bEvs) else some (Clk.zero,x.bClk++x.bEvs))=some (x.c,x.bEvs):=by
  unfold Rcd.bClk
  by_cases hu:kClk x.kind
  ·rw [if_pos hu,if_pos hu,rClk_at _ h.c]
  ·rw [if_neg hu,if_neg hu,h.nc hu,List.nil_append]
 rw [h2]
 simp only
 have h3:(if kEvs x.kind then rList x.bEvs else some ([],x.bEvs))=some (x.l,if kEvs x.kind then [] else x.bEvs):=by
  unfold Rcd.bEvs
  by_cases hu:kEvs x.kind
  ·have:=rList_at [] x.l h.l h.m
   rw [List.append_nil] at this
   rw [if_pos hu,if_pos hu,if_pos hu,this]
  ·rw [if_neg hu,if_neg hu,if_neg hu,h.ne hu]
 rw [h3]
theorem Ev.bytes_len {e:Ev} (h:e.May):0<e.bytes.length∧e.bytes.length≤60:=by
 have hl:=Ed.err_len h.ed
 have hr:=h.r
 have hn:=h.n
 have hh:=h.h
 have h1:=vB_len3 (n:=e.n.toNat) rM
 have h2:=vB_len3 (n:=e.h.toNat) rM
 have h3:=clkB_len e.c e.r h.c 5 (Nat.le_refl _)
 have h4:(edB e.ed).length≤30:=by
  unfold edB sB
  split
  ·simp only [List.length_append,List.length_cons,List.length_nil];omega
  ·simp only [List.length_append,List.length_cons,List.length_nil];omega
 unfold Ev.bytes
 simp only [List.length_append,List.length_cons,List.length_nil]
 omega
theorem evsB_len:∀ l:List Ev,(∀ e∈l,e.May)→(evsB l).length≤60 * l.length
 | [],_=>by simp [evsB]
 | e::l,h=>by
  have ih:=evsB_len l (fun x hx=>h x (List.mem_cons_of_mem _ hx))
  have he:=(Ev.bytes_len (h e (List.mem_cons_self ..))).2
  rw [evsB_cons,List.length_append,List.length_cons]
  omega
theorem clkA_len (c:Clk) (hc:∀ i,i<5→0≤c.get i∧c.get i≤1048576):∀ m,m≤5→(clkA c m).length≤4 * m
 | 0,_=>by simp [clkA]
 | m+1,hm=>by
  have ih:=clkA_len c hc m rM
  have hcm:=hc m rM
  have:=vB_len3 (n:=(c.get m).toNat) rM
  rw [clkA_succ,List.length_append]
  omega
theorem Rcd.body_len (x:Rcd) (h:x.May):2≤x.body.length∧x.body.length≤100+60 * x.l.length:=by
 have h1:x.bUpto.length≤4:=by
  unfold Rcd.bUpto
  split
  ·exact vB_len3 (by have:=h.u;omega)
  ·simp
 have h2:x.bClk.length≤20:=by
  unfold Rcd.bClk
  split
  ·exact clkA_len x.c h.c 5 (Nat.le_refl _)
  ·simp
 have h3:x.bEvs.length≤4+60 * x.l.length:=by
  unfold Rcd.bEvs
  split
  ·have:=evsB_len x.l h.l
   have:=vB_len3 (n:=x.l.length) (by have:=h.m;omega)
   rw [List.length_append]
   omega
  ·simp
 unfold Rcd.body Rcd.bHead
 simp only [List.length_append,List.length_cons,List.length_nil]
 omega
theorem Rcd.bytes_len (x:Rcd) (h:x.May):0<x.bytes.length∧x.bytes.length≤108+60 * x.l.length:=by
 have hb:=x.body_len h
 have hm:=h.m
 have hv:=vB_len3 (n:=(crcSeal x.body).length) (by rw [crcSeal_len];omega)
 unfold Rcd.bytes
 rw [List.length_append]
 have:=crcSeal_len x.body
 omega
theorem rcFirst_at (x:Rcd) (h:x.May) (q:List UInt8):rcFirst (x.bytes++q)=some (x,x.bytes.length):=by
 have hb:=x.body_len h
 have hm:=h.m
 have hs:=crcSeal_len x.body
 have hv:vTake (x.bytes++q)=.ok ((crcSeal x.body).length,(vB (crcSeal x.body).length).length):=by
  unfold Rcd.bytes
  rw [List.append_assoc]
  exact vTake_vB rM _
 have hl:(vB (crcSeal x.body).length).length+(crcSeal x.body).length=x.bytes.length:=by
  unfold Rcd.bytes
  rw [List.length_append]
 have ht:(x.bytes++q).take ((vB (crcSeal x.body).length).length+(crcSeal x.body).length)=x.bytes:=by rw [hl,List.take_left]
 have hd:x.bytes.drop (vB (crcSeal x.body).length).length=crcSeal x.body:=by
  conv=>lhs;rw [show x.bytes=vB (crcSeal x.body).length++crcSeal x.body from rfl]
  rw [List.drop_left]
 unfold rcFirst
 rw [hv]
 simp only
 rw [if_neg (by rw [List.length_append];omega),ht,hd,crcOpen_seal]
 simp only
 rw [rcRead_body x h]
 simp only
 rw [if_pos ⟨h,rfl⟩,hl]
theorem vT_cut:∀ (k n i acc:Nat) (p q:List UInt8),n<2 ^ (7 * k)→i+k≤9→vB n=p++q→q≠[]→vT i acc p=.error 2
 | 0,n,i,acc,p,q,hn,hi,he,hq=>by
  have:n=0:=by simpa using hn
  subst this
  rw [vB_small rM] at he
  rcases p with _ | ⟨a,p⟩
  ·unfold vT;rw [if_neg rM]
  ·simp only [List.cons_append,List.cons.injEq] at he
   exact absurd (List.append_eq_nil_iff.1 he.2.symm).2 hq
 | k+1,n,i,acc,p,q,hn,hi,he,hq=>by
  rcases p with _ | ⟨a,p⟩
  ·unfold vT;rw [if_neg rM]
  ·by_cases h:n<128
   ·rw [vB_small h] at he
    simp only [List.cons_append,List.cons.injEq] at he
    exact absurd (List.append_eq_nil_iff.1 he.2.symm).2 hq
   ·rw [vB_big h] at he
    simp only [List.cons_append,List.cons.injEq] at he
    have e:a.toNat=n % 128+128:=by rw [← he.1];simp;omega
    have hn2:n / 128<2 ^ (7 * k):=by
     rw [show 7 * (k+1)=7 * k+7 by omega,Nat.pow_add] at hn
     exact Nat.div_lt_of_lt_mul (by rw [Nat.mul_comm];exact hn)
    unfold vT
    rw [if_neg rM,if_pos rM]
    exact vT_cut k (n / 128) (i+1) _ p q hn2 rM he.2 hq
theorem rcFirst_cut (x:Rcd) (h:x.May) (p q:List UInt8) (he:x.bytes=p++q) (hq:q≠[]):rcFirst p=none:=by
 have hb:=x.body_len h
 have hm:=h.m
 have hs:=crcSeal_len x.body
 have hlen:x.bytes.length=p.length+q.length:=by rw [he,List.length_append]
 have hq0:0<q.length:=List.length_pos_iff.2 hq
 have hv:=vB_len3 (n:=(crcSeal x.body).length) rM
 have hl:(vB (crcSeal x.body).length).length+(crcSeal x.body).length=x.bytes.length:=by
  unfold Rcd.bytes
  rw [List.length_append]
 have he2:vB (crcSeal x.body).length++crcSeal x.body=p++q:=he
 rcases List.append_eq_append_iff.1 he2 with ⟨t,h1,h2⟩ | ⟨t,h1,h2⟩
 ·have hvt:vTake p=.ok ((crcSeal x.body).length,(vB (crcSeal x.body).length).length):=by
   rw [h1];exact vTake_vB rM _
  unfold rcFirst
  rw [hvt]
  simp only
  rw [if_pos rM]
 ·by_cases ht:t=[]
  ·subst ht
   rw [List.append_nil] at h1
   have hvt:vTake p=.ok ((crcSeal x.body).length,(vB (crcSeal x.body).length).length):=by
    have:=vTake_vB (n:=(crcSeal x.body).length) rM []
    rw [List.append_nil] at this
    rw [← h1];exact this
   unfold rcFirst
   rw [hvt]
   simp only
   rw [if_pos rM]
  ·have:=vT_cut 9 _ 0 0 p t rM rM h1 ht
   unfold rcFirst
   rw [show vTake p=.error 2 from this]
theorem rcFirst_nil:rcFirst []=none:=rfl
theorem rcFirst_some {b:List UInt8} {x:Rcd} {k:Nat} (h:rcFirst b=some (x,k)):x.May∧b=x.bytes++b.drop k∧k=x.bytes.length:=by
 unfold rcFirst at h
 split at h
 ·cases h
 ·rename_i n k2 hv
  split at h
  ·cases h
  ·rename_i hl
   split at h
   ·cases h
   ·split at h
    ·cases h
    ·split at h
     ·rename_i hx
      simp only [Option.some.injEq,Prod.mk.injEq] at h
      obtain ⟨rfl,rfl⟩:=h
      refine ⟨hx.1,by rw [hx.2,List.take_append_drop],?_⟩
      rw [hx.2,List.length_take]
      omega
     ·cases h
inductive RcAll:List UInt8→List Rcd→Nat→Prop
 | nil {b:List UInt8}:rcFirst b=none→RcAll b [] 0
 | cons {b:List UInt8} {x:Rcd} {k n:Nat} {l:List Rcd}:rcFirst b=some (x,k)→RcAll (b.drop k) l n→RcAll b (x::l) (k+n)
def rcsB (l:List Rcd):List UInt8:=l.flatMap Rcd.bytes
theorem rcsB_cons (x:Rcd) (l:List Rcd):rcsB (x::l)=x.bytes++rcsB l:=by simp [rcsB]
theorem rcsB_app (a b:List Rcd):rcsB (a++b)=rcsB a++rcsB b:=by simp [rcsB]
theorem RcAll.of {q:List UInt8} (hq:rcFirst q=none):∀ {l:List Rcd} {m:List Rcd} {n:Nat},(∀ x∈l,x.May)→RcAll (rcsB l++q) m n→m=l∧n=(rcsB l).length
 | [],m,n,_,h=>by
  simp only [rcsB,List.flatMap_nil,List.nil_append] at h
  cases h with
  | nil=>exact ⟨rfl,rfl⟩
  | cons h1 _=>rw [hq] at h1;cases h1
 | x::l,m,n,hm,h=>by
  rw [rcsB_cons,List.append_assoc] at h
  have hf:=rcFirst_at x (hm x (List.mem_cons_self ..)) (rcsB l++q)
  cases h with
  | nil h1=>rw [hf] at h1;cases h1
  | cons h1 h2 =>
   rw [hf] at h1
   simp only [Option.some.injEq,Prod.mk.injEq] at h1
   obtain ⟨rfl,rfl⟩:=h1
   rw [List.drop_left] at h2
   obtain ⟨rfl,rfl⟩:=RcAll.of hq (fun y hy=>hm y (List.mem_cons_of_mem _ hy)) h2
   exact ⟨rfl,by rw [rcsB_cons,List.length_append]⟩
end
section
def fEvs (k:Int):Prop:=k=1∨k=4
def fUpto (k:Int):Prop:=k=2
def fClk (k:Int):Prop:=k=3∨k=5
instance (k:Int):Decidable (fUpto k):=by unfold fUpto;infer_instance
instance (k:Int):Decidable (fEvs k):=by unfold fEvs;infer_instance
instance (k:Int):Decidable (fClk k):=by unfold fClk;infer_instance
structure Rcd.FMay (x:Rcd):Prop where
 k:1≤x.kind∧x.kind≤5
 r:0≤x.r∧x.r<5
 u:0≤x.upto∧x.upto≤1048576
 nu:¬ fUpto x.kind→x.upto=0
 nc:¬ fClk x.kind→x.c=Clk.zero
 ne:¬ fEvs x.kind→x.l=[]
 c:∀ i,i<5→0≤x.c.get i∧x.c.get i≤1048576
 m:x.l.length≤20
 p:x.kind=1→x.l≠[]
 l:∀ e∈x.l,e.May
 own:x.kind=1→∀ e∈x.l,e.r=x.r
def Rcd.fBEvs (x:Rcd):List UInt8:=if fEvs x.kind then UInt8.ofNat x.l.length::evsB x.l else []
def Rcd.fBUpto (x:Rcd):List UInt8:=if fUpto x.kind then vB x.upto.toNat else []
def Rcd.fBClk (x:Rcd):List UInt8:=if fClk x.kind then clkA x.c 5 else []
def Rcd.fbody (x:Rcd):List UInt8:=x.bHead++x.fBEvs++x.fBUpto++x.fBClk
def Rcd.fbytes (x:Rcd):List UInt8:=crcSeal (vB x.fbody.length++x.fbody)
def fList (b:List UInt8):Option (List Ev):=match b with
 | []=>none
 | n::q=>(rEvsN n.toNat q).map Prod.fst
def frRead (b:List UInt8):Option Rcd:=match vTake b with
 | .error _=>none
 | .ok (_,n)=>match b.drop n with
  | k::r::q =>
   if 1≤(k.toNat:Int)∧(k.toNat:Int)≤5 then
    match (if fEvs k.toNat then fList q else some []) with
    | none=>none
    | some l=>match (if fUpto k.toNat then rNum q else some (0,q)) with
     | none=>none
     | some (u,_)=>match (if fClk k.toNat then rClkN 5 q else some (Clk.zero,q)) with
      | none=>none
      | some (c,_)=>some ⟨k.toNat,r.toNat,u,c,l⟩
   else none
  | _=>none
open Classical in
noncomputable def frTake (b:List UInt8):Rcd×Int :=
 if 2048<b.length then (Rcd.zero,5) else match crcOpen b with
 | none=>(Rcd.zero,4)
 | some q=>match frRead q with
  | none=>(Rcd.zero,3)
  | some x=>if x.FMay∧x.fbytes=b then (x,0) else (Rcd.zero,3)
theorem fList_at (l:List Ev) (h:∀ e∈l,e.May) (hl:l.length≤20):fList (UInt8.ofNat l.length::evsB l)=some l:=by
 unfold fList
 simp only
 have e:(UInt8.ofNat l.length).toNat=l.length:=by simp;omega
 have:=rEvsN_at [] l h
 rw [List.append_nil] at this
 rw [e,this]
 rfl
theorem frRead_body (x:Rcd) (h:x.FMay) (hl:x.fbody.length<2 ^ 63):frRead (vB x.fbody.length++x.fbody)=some x:=by
 have hk:=h.k
 have hr:=h.r
 have ek:=u8_of x.kind rM rM
 have er:=u8_of x.r rM rM
 have hb:x.fbody=UInt8.ofNat x.kind.toNat::UInt8.ofNat x.r.toNat::(x.fBEvs++(x.fBUpto++x.fBClk)):=by
  unfold Rcd.fbody Rcd.bHead
  simp
 unfold frRead
 rw [vTake_vB hl]
 simp only [List.drop_left]
 rw [hb]
 simp only [ek,er]
 rw [if_pos hk]
 by_cases h1:fEvs x.kind
 ·have n2:¬ fUpto x.kind:=by unfold fUpto;unfold fEvs at h1;omega
  have n3:¬ fClk x.kind:=by unfold fClk;unfold fEvs at h1;omega
  have e2:x.fBUpto=[]:=if_neg n2
  have e3:x.fBClk=[]:=if_neg n3
  have e1:x.fBEvs=UInt8.ofNat x.l.length::evsB x.l:=if_pos h1
  rw [if_pos h1,if_neg n2,if_neg n3,e1,e2,e3,List.append_nil,List.append_nil,fList_at x.l h.l h.m]
  simp only
  rw [← h.nu n2,← h.nc n3]
 ·have e1:x.fBEvs=[]:=if_neg h1
  rw [if_neg h1,e1,List.nil_append]
  simp only
  by_cases h2:fUpto x.kind
  ·have n3:¬ fClk x.kind:=by unfold fClk;unfold fUpto at h2;omega
   have e3:x.fBClk=[]:=if_neg n3
   have e2:x.fBUpto=vB x.upto.toNat:=if_pos h2
   have:=rNum_at x.upto h.u []
   rw [List.append_nil] at this
   rw [if_pos h2,if_neg n3,e2,e3,List.append_nil,this]
   simp only
   rw [← h.ne h1,← h.nc n3]
  ·have h3:fClk x.kind:=by unfold fClk;unfold fUpto at h2;unfold fEvs at h1;omega
   have e2:x.fBUpto=[]:=if_neg h2
   have e3:x.fBClk=clkA x.c 5:=if_pos h3
   have:=rClk_at x.c h.c []
   rw [List.append_nil] at this
   rw [if_neg h2,e2,List.nil_append]
   simp only
   rw [if_pos h3,e3,this]
   simp only
   rw [← h.ne h1,← h.nu h2]
theorem Rcd.fbody_len (x:Rcd) (h:x.FMay):2≤x.fbody.length∧x.fbody.length≤1300:=by
 have h1:x.fBUpto.length≤4:=by
  unfold Rcd.fBUpto
  split
  ·exact vB_len3 (by have:=h.u;omega)
  ·simp
 have h2:x.fBClk.length≤20:=by
  unfold Rcd.fBClk
  split
  ·exact clkA_len x.c h.c 5 (Nat.le_refl _)
  ·simp
 have h3:x.fBEvs.length≤1201:=by
  unfold Rcd.fBEvs
  split
  ·have:=evsB_len x.l h.l
   have:=h.m
   rw [List.length_cons]
   omega
  ·simp
 unfold Rcd.fbody Rcd.bHead
 simp only [List.length_append,List.length_cons,List.length_nil]
 omega
theorem Rcd.fbytes_len (x:Rcd) (h:x.FMay):x.fbytes.length≤1310:=by
 have hb:=x.fbody_len h
 have hv:=vB_len3 (n:=x.fbody.length) rM
 unfold Rcd.fbytes
 rw [crcSeal_len,List.length_append]
 omega
theorem frTake_fbytes (x:Rcd) (h:x.FMay):frTake x.fbytes=(x,0):=by
 have hl:=x.fbytes_len h
 have hb:=x.fbody_len h
 have ho:crcOpen x.fbytes=some (vB x.fbody.length++x.fbody):=crcOpen_seal _
 unfold frTake
 rw [if_neg rM,ho]
 simp only
 rw [frRead_body x h rM]
 simp only
 rw [if_pos ⟨h,rfl⟩]
end
section
set_option maxRecDepth 20000 attribute [local irreducible] Ex ExL Fn thn inb rnd fin meet Tab Mix mxEnd Val Sats RdT Rd RowT Row Blk Sub Fac ResV RVal Evs subs subs3 Hid Capd
section
theorem rcount_F (n:Int) (M:List Assn):Fn Tryz.prog 271 #[.int .i64 n] M fun v L'=>v=.bool (decide (0≤n∧n≤1048576))∧L'=M:=by
 refine Fn.of_ex Tryz.func271 rfl Tryz.ntmps271 rfl ?_
 by_cases h1:0≤n
 ·(refine rn ?_;intros)
  (refine fr ?_)
  exact ⟨_,rB,by simp [h1],rfl⟩
 ·(refine rn ?_;intros)
  (refine fr ?_)
  exact ⟨_,rB,by simp [h1],rfl⟩
theorem rfields_F (k:Int) (M:List Assn):Fn Tryz.prog 234 #[.int .i64 k] M fun v L'=>v=.tuple #[.bool (decide (kUpto k)),.bool (decide (kEvs k)),.bool (decide (kClk k)),.bool (decide (1≤k∧k≤6))]∧L'=M:=by
 have hk:k=1∨k=2∨k=3∨k=4∨k=5∨k=6∨(k≠1∧k≠2∧k≠3∧k≠4∧k≠5∧k≠6):=by omega
 refine Fn.of_ex Tryz.func234 rfl Tryz.ntmps234 rfl ?_
 rcases hk with rfl | rfl | rfl | rfl | rfl | rfl | hk
 ·(refine rn ?_;intros)
  refine fin_ret (res_any (rs:=[_,_,_,_]) (vs:=[_,_,_,_]) rJ ⟨rI,rI,rI,rI,trivial⟩) ?_
  exact ⟨_,rB,rfl,rfl⟩
 ·(refine rn ?_;intros)
  refine fin_ret (res_any (rs:=[_,_,_,_]) (vs:=[_,_,_,_]) rJ ⟨rI,rI,rI,rI,trivial⟩) ?_
  exact ⟨_,rB,rfl,rfl⟩
 ·(refine rn ?_;intros)
  refine fin_ret (res_any (rs:=[_,_,_,_]) (vs:=[_,_,_,_]) rJ ⟨rI,rI,rI,rI,trivial⟩) ?_
  exact ⟨_,rB,rfl,rfl⟩
 ·(refine rn ?_;intros)
  refine fin_ret (res_any (rs:=[_,_,_,_]) (vs:=[_,_,_,_]) rJ ⟨rI,rI,rI,rI,trivial⟩) ?_
  exact ⟨_,rB,rfl,rfl⟩
 ·(refine rn ?_;intros)
  refine fin_ret (res_any (rs:=[_,_,_,_]) (vs:=[_,_,_,_]) rJ ⟨rI,rI,rI,rI,trivial⟩) ?_
  exact ⟨_,rB,rfl,rfl⟩
 ·(refine rn ?_;intros)
  refine fin_ret (res_any (rs:=[_,_,_,_]) (vs:=[_,_,_,_]) rJ ⟨rI,rI,rI,rI,trivial⟩) ?_
  exact ⟨_,rB,rfl,rfl⟩
 ·(refine rn ?_;intros)
  refine fin_ret (res_any (rs:=[_,_,_,_]) (vs:=[_,_,_,_]) rJ ⟨rI,rI,rI,rI,trivial⟩) ?_
  refine ⟨_,rB,?_,rfl⟩
  rw [decide_eq_false (show ¬ kUpto k by unfold kUpto;omega),decide_eq_false (show ¬ kEvs k by unfold kEvs;omega),decide_eq_false (show ¬ kClk k by unfold kClk;omega),decide_eq_false (show ¬ (1≤k∧k≤6) by omega)]
  rfl
theorem rnumber_F (v0:Value) (b:List UInt8) (M K:List Assn) (hk:RdT K v0 b) (hs:Sub K M) (o0:v0.oneCell'=true) (hb:b.length≤1000000000):Fn Tryz.prog 288 #[v0] M
  fun r L'=>(rNum b=none∧r=.tuple #[.int .i64 0,.slice none 0 0,.bool false]∧L'=M)∨∃ n q u,rNum b=some (n,q)∧u.oneCell'=true∧q.length≤b.length∧0≤n∧n≤1048576∧r=.tuple #[.int .i64 n,u,.bool true]∧RdT K u q∧L'=M:=by
 have hr:RdT M v0 b:=hk.sub hs
 refine Fn.of_ex Tryz.func288 rfl Tryz.ntmps288 rfl ?_
 (refine rn ?_;intros)
 refine st_callIs [] rJ Tryz.call247 rJ rJ (vtake_F _ b _ rD hb) ?_
 rintro _ _ ⟨rfl,rfl⟩
 have hsp:=vT_spec b 0 0
 rcases hv:vTake b with x | ⟨n,k⟩
 ·have hv':vT 0 0 b=.error x:=hv
  rw [hv'] at hsp
  have hx:x=2∨x=3:=hsp
  have hN:rNum b=none:=by unfold rNum;rw [hv]
  unfold vtV
  (refine rn ?_;intros)
  (refine fr ?_)
  exact ⟨_,rB,.inl ⟨hN,rfl,rfl⟩⟩
 ·have hv':vT 0 0 b=.ok (n,k):=hv
  rw [hv'] at hsp
  have hkl:0<k∧k≤0+b.length:=hsp
  unfold vtV
  by_cases hn:1048576<(n:Int)
  ·have hN:rNum b=none:=by unfold rNum;rw [hv];simp only;rw [if_pos rM]
   (refine rn ?_;intros)
   (refine fr ?_)
   exact ⟨_,rB,.inl ⟨hN,rfl,rfl⟩⟩
  ·have hN:rNum b=some ((n:Int),b.drop k):=by unfold rNum;rw [hv];simp only;rw [if_neg rM]
   (refine rn ?_;intros)
   (refine mu6 ?_;intros)
   (refine rn ?_;intros)
   (refine fr ?_)
   exact ⟨_,rB,.inr ⟨n,b.drop k,_,hN,subs_one o0,by rw [List.length_drop];omega,by omega,by omega,rfl,RdT.off hk rM rfl rJ,rfl⟩⟩
@[reducible] def ReO (r:Value) (l:Option (List Ev×List UInt8)) (M L':List Assn):Prop :=
 (l=none∧r=.tuple #[.slice none 0 0,.bool false]∧L'=M)∨∃ x q u,l=some (x,q)∧u.oneCell'=true∧r=.tuple #[u,.bool true]∧L'=Evs_ u x::M
theorem rEvsN_snoc:∀ (n:Nat) (b:List UInt8),rEvsN (n+1) b=match rEvsN n b with
  | none=>none
  | some (l,q)=>if (evTake q).2.2=0 then some (l++[(evTake q).1],q.drop (evTake q).2.1) else none
 | 0,b=>by
  simp only [rEvsN]
  split <;> simp
 | n+1,b=>by
  have ih:=rEvsN_snoc n (b.drop (evTake b).2.1)
  rw [rEvsN]
  by_cases h:(evTake b).2.2=0
  ·rw [if_pos h,ih]
   conv=>rhs;rw [rEvsN,if_pos h]
   cases hr:rEvsN n (b.drop (evTake b).2.1) with
   | none=>rfl
   | some p =>
    obtain ⟨l,q⟩:=p
    simp only
    by_cases h2:(evTake q).2.2=0
    ·rw [if_pos h2,if_pos h2];rfl
    ·rw [if_neg h2,if_neg h2]
  ·rw [if_neg h]
   conv=>rhs;rw [rEvsN,if_neg h]
theorem rEvsN_len:∀ (n:Nat) (b:List UInt8) {l:List Ev} {q:List UInt8},rEvsN n b=some (l,q)→l.length=n∧q.length≤b.length∧∀ e∈l,e.ed.key.length≤8∧e.ed.value.length≤12
 | 0,b,l,q,h=>by
  simp only [rEvsN,Option.some.injEq,Prod.mk.injEq] at h
  obtain ⟨rfl,rfl⟩:=h
  exact ⟨rfl,Nat.le_refl _,fun e he=>by cases he⟩
 | n+1,b,l,q,h=>by
  rw [rEvsN] at h
  split at h
  ·split at h
   ·cases h
   ·rename_i l2 q2 h2
    simp only [Option.some.injEq,Prod.mk.injEq] at h
    obtain ⟨rfl,rfl⟩:=h
    have ih:=rEvsN_len n _ h2
    rw [List.length_drop] at ih
    refine ⟨by rw [List.length_cons,ih.1],by omega,fun e he=>?_⟩
    rcases List.mem_cons.1 he with rfl | he
    ·exact evTake_len b
    ·exact ih.2.2 e he
  ·cases h
theorem rEvsN_none:∀ (n k:Nat) (b:List UInt8),rEvsN n b=none→rEvsN (n+k) b=none
 | n,0,b,h=>h
 | n,k+1,b,h=>by
  rw [← Nat.add_assoc,rEvsN_snoc,rEvsN_none n k b h]
theorem rlist_F (v0:Value) (b:List UInt8) (M:List Assn) (hr:RdT M v0 b) (o0:v0.oneCell'=true) (hb:b.length≤1000000000):Fn Tryz.prog 289 #[v0] M fun r L'=>ReO r (rList b) M L':=by
 refine Fn.of_ex Tryz.func289 rfl Tryz.ntmps289 rfl ?_
 (refine rn ?_;(repeat (first | intro (g:Nat) | intro (v:Value) | intro (o:O1 _) | intro (cs:List Value) | intro (hcs:_=List.set _ _ _) | intro (zs:List _) | intro h)))
 refine st_callIs [] rJ Tryz.call288 rJ rJ (rnumber_F _ b _ _ hr (Sub.refl _) o0 hb) ?_
 rintro _ _ (⟨hNu,rfl,rfl⟩ | ⟨n,q,u,hNu,ou,hq,hn0,hn1,rfl,hu,rfl⟩)
 ·have hL:rList b=none:=by unfold rList;rw [hNu]
  (refine rn ?_;(repeat (first | intro (g:Nat) | intro (v:Value) | intro (o:O1 _) | intro (cs:List Value) | intro (hcs:_=List.set _ _ _) | intro (zs:List _) | intro h)))
  (refine fr ?_)
  exact ⟨_,rB,.inl ⟨hL,rfl,rfl⟩⟩
 ·by_cases hm:4096<n
  ·have hL:rList b=none:=by unfold rList;rw [hNu];exact if_pos hm
   (refine rn ?_;(repeat (first | intro (g:Nat) | intro (v:Value) | intro (o:O1 _) | intro (cs:List Value) | intro (hcs:_=List.set _ _ _) | intro (zs:List _) | intro h)))
   (refine fr ?_)
   exact ⟨_,rB,.inl ⟨hL,rfl,rfl⟩⟩
  ·obtain ⟨m,rfl⟩:=Int.eq_ofNat_of_zero_le hn0
   have hL:rList b=rEvsN m q:=by unfold rList;rw [hNu];simp only;rw [if_neg hm,Int.toNat_natCast]
   rw [hL]
   rename_i M1
   replace hu:RdT M1 u q:=hu
   (refine rn ?_;(repeat (first | intro (g:Nat) | intro (v:Value) | intro (o:O1 _) | intro h)))
   refine Ex.sub ?_ (Sub.empty (α:=Ev) none 80 M1)
   refine Ex.loop [0,6,23] (fun k vs L'=>∃ (i:Nat) (l:List Ev) (q':List UInt8) (u' v':Value),i≤m∧k=m - i∧rEvsN i q=some (l,q')∧u'.oneCell'=true∧v'.oneCell'=true∧RdT M1 u' q'∧vs=[u',v',.int .i64 i]∧L'=Evs_ v' l::M1) m ⟨0,[],q,u,_,by omega,by omega,rfl,ou,rfl,hu,rfl,rfl⟩ ?_
   rintro k vs g0 L1 ⟨i,l,q',u',v',hi,rfl,hE,ou',ov',hu',rfl,rfl⟩
   refine Ex.keep [0,6,22,23] rG (fun gk=>?_)
   have hlen:=rEvsN_len i q hE
   by_cases hlt:i<m
   ·have hS:=rEvsN_snoc i q
    rw [hE] at hS
    simp only at hS
    (refine rn ?_;(repeat (first | intro (g:Nat) | intro (v:Value) | intro (o:O1 _) | intro h)))
    refine st_callIs [] rJ Tryz.call290 rJ rJ (etake_F _ q' _ rD ou' rM) ?_
    rintro _ _ ⟨rfl,rfl⟩
    have hus:=evTake_used q'
    by_cases he:(evTake q').2.2=0
    ·rw [if_pos he] at hS
     (refine rn ?_;(repeat (first | intro (g:Nat) | intro (v:Value) | intro (o:O1 _) | intro h)))
     revert g
     intro g7
     refine Ex.reord [1] rE ?_
     (refine Ex.mixA 8 (Blk g7 80 (Rep.cells (evTake q').1)::M1) rfl rQ rF ?_;(refine mn ?_;(repeat (first | intro (v:Value) | intro (o:O1 _) | intro h))))
     (refine rn ?_;(repeat (first | intro (v:Value) | intro (o:O1 _) | intro h)))
     exact rnd_n ⟨m - (i+1),Evs_ v (l++[(evTake q').1])::M1,by omega,rB,i+1,_,_,_,v,by omega,rfl,hS,subs_one ou',o,RdT.off hu' rM rfl rJ,lcons rfl (lcons rfl (lcons (vint rM) rfl)),rfl⟩
    ·rw [if_neg he] at hS
     have hNn:rEvsN m q=none:=by
      have:=rEvsN_none (i+1) (m - (i+1)) q hS
      rwa [show i+1+(m - (i+1))=m by omega] at this
     (refine rn ?_;intros)
     (refine fr ?_)
     exact ⟨_,rB,.inl ⟨hNn,rfl,rfl⟩⟩
   ·have him:i=m:=by omega
    subst him
    (refine rn ?_;intros)
    (refine fr ?_)
    exact ⟨_,rB,.inr ⟨l,q',_,hE,ov',rfl,rfl⟩⟩
end
end
section
set_option maxRecDepth 20000
instance:EqT Tryz.prog 50 Clk:=⟨6,[.i .i64,.i .i64,.i .i64,.i .i64,.i .i64],by kernel_rfl,by kernel_rfl,by kernel_rfl,by kernel_rfl,fun _=>rfl,fun a b h=>by
 obtain ⟨a1,a2,a3,a4,a5⟩:=a
 obtain ⟨b1,b2,b3,b4,b5⟩:=b
 simp only [Rep.cells,List.cons.injEq,Value.int.injEq,true_and,and_true] at h
 simp [h]⟩
end
section
theorem ExL.claim2 {P:Program} {n:Nat} {Q:Post} {f:Nat→Value} {L:List Assn} {y z:Code} {ops:Array Oper} {l:List Oper} (k:Nat) (ss:List Nat) (I:List Value→List Assn→Prop) (hy:∀ vs g L',I vs L'→Ex P n (sufC k z) Q (upds g ss vs) L')
  (hx:(∀ f L,(∃ L',Sub L' L∧I (ss.map f) L')→Ex P n (Hid (sufC k z)) Q f L)→ExL P n ops l (thn P n y (thn P n (hidC k z) Q)) f L):ExL P n ops l (thn P n y (thn P n z Q)) f L:=by
 rw [hidC_eq] at hx
 refine hx fun f L ⟨L',hs,h⟩=>?_
 have:=hy _ f L' h
 rw [upds_self] at this
 exact Ex.sub this hs
set_option maxRecDepth 20000 attribute [local irreducible] Ex ExL Fn thn inb rnd fin meet Tab Mix mxEnd Val Sats RdT Rd RowT Row Blk Sub Fac ResV RVal Evs subs subs3 Hid Capd
section
@[reducible] def rcC (x:Rcd) (v:Value):List Value:=[.int .i64 x.kind,.int .i64 x.r,.int .i64 x.upto,.int .i64 x.c.a,.int .i64 x.c.b,.int .i64 x.c.c,.int .i64 x.c.d,.int .i64 x.c.e,v]
theorem rmay_F (x:Rcd) (v0:Value) (M:List Assn) (hr:RdT M v0 x.l) (o0:v0.oneCell'=true) (hl:x.l.length≤1000000000) (hs:∀ e∈x.l,e.ed.key.length≤1000∧e.ed.value.length≤1000):Fn Tryz.prog 233 #[.agg (rcC x v0).toArray] M fun v L'=>(∃ t:Bool,(t=true↔x.May)∧v=.bool t)∧L'=M:=by
 refine Fn.of_ex Tryz.func233 rfl Tryz.ntmps233 rfl ?_
 (refine rn ?_;(repeat (first | intro (g:Nat) | intro h)))
 refine st_callIs [] rJ Tryz.call234 rJ rJ (rfields_F x.kind _) ?_
 rintro _ _ ⟨rfl,rfl⟩
 by_cases h1:1≤x.kind∧x.kind≤6
 rotate_left
 ·rw [decide_eq_false h1]
  (refine rn ?_;(repeat (first | intro (g:Nat) | intro h)))
  (refine fr ?_)
  exact ⟨_,rB,⟨false,by simp;exact fun h=>h1 h.k,rfl⟩,rfl⟩
 rw [decide_eq_true h1]
 by_cases h2:0≤x.r
 rotate_left
 ·(refine rn ?_;(repeat (first | intro (g:Nat) | intro h)))
  (refine fr ?_)
  exact ⟨_,rB,⟨false,by simp;exact fun h=>h2 h.r.1,rfl⟩,rfl⟩
 by_cases h3:x.r<5
 rotate_left
 ·(refine rn ?_;(repeat (first | intro (g:Nat) | intro h)))
  (refine fr ?_)
  exact ⟨_,rB,⟨false,by simp;exact fun h=>h3 h.r.2,rfl⟩,rfl⟩
 (refine rn ?_;(repeat (first | intro (g:Nat) | intro h)))
 refine st_callIs [] rJ Tryz.call271 rJ rJ (rcount_F x.upto _) ?_
 rintro _ _ ⟨rfl,rfl⟩
 by_cases h4:0≤x.upto∧x.upto≤1048576
 rotate_left
 ·rw [decide_eq_false h4]
  (refine rn ?_;(repeat (first | intro (g:Nat) | intro h)))
  (refine fr ?_)
  exact ⟨_,rB,⟨false,by simp;exact fun h=>h4 h.u,rfl⟩,rfl⟩
 rw [decide_eq_true h4]
 revert g
 intro g1
 refine ExL.claim2 2 [1] (fun vs L'=>x.l.length≤4096∧(∀ i,i<5→0≤x.c.get i∧x.c.get i≤1048576)∧(¬ kUpto x.kind→x.upto=0)∧(¬ kClk x.kind→x.c=Clk.zero)∧(¬ kEvs x.kind→x.l=[])∧vs=[.pointer (some ⟨g1,0,none⟩)]∧L'=Blk g1 88 (rcC x v0)::M) ?_ ?_
 ·rintro vs gk L' ⟨h5,hca,hnu,hnc,hne,rfl,rfl⟩
  (refine rn ?_;intros)
  refine Ex.loop [82] (fun q vs L'=>∃ i:Nat,i≤x.l.length∧q=x.l.length - i∧(∀ j (hj:j<x.l.length),j<i→(x.l[j]'hj).May)∧vs=[.int .i64 i]∧L'=Blk g1 88 (rcC x v0)::M) x.l.length ⟨0,by omega,rfl,fun j _ hj=>by omega,rfl,rfl⟩ ?_
  rintro q vs g0 L1 ⟨i,hi,rfl,hcl,rfl,rfl⟩
  refine Ex.keep [1,80,81,82] rG (fun gk=>?_)
  by_cases hlt:i<x.l.length
  ·have hse:=hs _ (List.getElem_mem hlt)
   (refine rn ?_;intros)
   refine st_callIs [] rJ Tryz.call236 rJ rJ (evMay_F (x.l[i]'hlt) _ rM rM) ?_
   rintro _ _ ⟨⟨y,hy,rfl⟩,rfl⟩
   by_cases hy0:y=0
   ·subst hy0
    have hm:=hy.1 rfl
    (refine rn ?_;intros)
    exact rnd_n ⟨x.l.length - (i+1),_,by omega,rB,i+1,by omega,rfl,fun j hj hji=>by
     rcases Nat.lt_or_ge j i with h | h
     ·exact hcl j hj h
     ·have:j=i:=by omega
      subst this;exact hm,lcons (vint rM) rfl,rfl⟩
   ·(refine rn ?_;intros)
    (refine fr ?_)
    exact ⟨_,rB,⟨false,by simp;exact fun h=>hy0 (hy.2 (h.l _ (List.getElem_mem hlt))),rfl⟩,rfl⟩
  ·have hall:∀ e∈x.l,e.May:=fun e he=>by
    obtain ⟨j,hj,rfl⟩:=List.getElem_of_mem he
    exact hcl j hj rM
   by_cases hk:x.kind=1
   ·(refine rn ?_;intros)
    (refine fr ?_)
    refine ⟨_,rB,⟨_,?_,rfl⟩,rfl⟩
    simp only [decide_eq_true_eq]
    exact ⟨fun h=>⟨h1,⟨h2,h3⟩,h4,h5,hca,hnu,hnc,hne,hall,fun _=>by omega⟩,fun h=>by have:=h.one hk;omega⟩
   ·(refine rn ?_;intros)
    (refine fr ?_)
    exact ⟨_,rB,⟨true,by simp;exact ⟨h1,⟨h2,h3⟩,h4,h5,hca,hnu,hnc,hne,hall,fun h=>absurd h hk⟩,rfl⟩,rfl⟩
 intro HC
 by_cases h5:x.l.length≤4096
 rotate_left
 ·(refine rn ?_;intros)
  (refine fr ?_)
  exact ⟨_,rB,⟨false,by simp;exact fun h=>h5 h.m,rfl⟩,rfl⟩
 (refine rn ?_;intros)
 refine Ex.loop [45] (fun q vs L'=>∃ i:Nat,i≤5∧q=5 - i∧(∀ j,j<i→0≤x.c.get j∧x.c.get j≤1048576)∧vs=[.int .i64 i]∧L'=Blk g1 88 (rcC x v0)::M) 5 ⟨0,by omega,rfl,fun j hj=>by omega,rfl,rfl⟩ ?_
 rintro q vs g0 L1 ⟨i,hi,rfl,hcl,rfl,rfl⟩
 refine Ex.keep [1,3,4,5,44,45] rG (fun gk=>?_)
 by_cases hlt:i<5
 ·(refine rn ?_;intros)
  refine ExL.val rJ rJ rJ (vl_indexC rJ rJ rJ rJ rJ rM rM) ?_
  rw [show (⟨x.c.a,x.c.b,x.c.c,x.c.d,x.c.e⟩:Clk).get (i:Int).toNat=x.c.get i from rfl]
  (refine rn ?_;intros)
  refine st_callIs [] rJ Tryz.call271 rJ rJ (rcount_F (x.c.get i) _) ?_
  rintro _ _ ⟨rfl,rfl⟩
  by_cases hc:0≤x.c.get i∧x.c.get i≤1048576
  ·rw [decide_eq_true hc]
   (refine rn ?_;intros)
   exact rnd_n ⟨5 - (i+1),_,by omega,rB,i+1,by omega,rfl,fun j hj=>by
    rcases Nat.lt_or_ge j i with h | h
    ·exact hcl j h
    ·rw [show j=i by omega];exact hc,lcons (vint rM) rfl,rfl⟩
  ·rw [decide_eq_false hc]
   (refine rn ?_;intros)
   (refine fr ?_)
   exact ⟨_,rB,⟨false,by simp;exact fun h=>hc (h.c i hlt),rfl⟩,rfl⟩
 ·have h5:i=5:=by omega
  subst h5
  clear hi hlt
  have hca:∀ i,i<5→0≤x.c.get i∧x.c.get i≤1048576:=hcl
  clear hcl
  by_cases a:¬ kUpto x.kind∧x.upto≠0
  ·rw [decide_eq_false a.1]
   have a2:=a.2
   (refine rn ?_;intros)
   (refine fr ?_)
   exact ⟨_,rB,⟨false,by simp;exact fun h=>a2 (h.nu a.1),rfl⟩,rfl⟩
  have hnu:¬ kUpto x.kind→x.upto=0:=fun h=>Classical.byContradiction fun h2=>a ⟨h,h2⟩
  by_cases u:kUpto x.kind
  ·rw [decide_eq_true u]
   by_cases c:kClk x.kind
   ·have hnc:¬ kClk x.kind→x.c=Clk.zero:=fun h=>absurd c h
    rw [decide_eq_true c]
    by_cases e:kEvs x.kind
    ·have hne:¬ kEvs x.kind→x.l=[]:=fun h=>absurd e h
     rw [decide_eq_true e]
     (refine rn ?_;intros)
     exact HC _ _ ⟨_,rB,h5,hca,hnu,hnc,hne,lcons rfl rfl,rfl⟩
    rw [decide_eq_false e]
    by_cases e2:x.l.length=0
    ·have hne:¬ kEvs x.kind→x.l=[]:=fun h=>List.eq_nil_of_length_eq_zero e2
     (refine rn ?_;intros)
     exact HC _ _ ⟨_,rB,h5,hca,hnu,hnc,hne,lcons rfl rfl,rfl⟩
    ·(refine rn ?_;intros)
     (refine fr ?_)
     exact ⟨_,rB,⟨false,by simp;exact fun h=>e2 (by rw [h.ne e];rfl),rfl⟩,rfl⟩
   rw [decide_eq_false c]
   by_cases c2:x.c=Clk.zero
   ·have hnc:¬ kClk x.kind→x.c=Clk.zero:=fun _=>c2
    by_cases e:kEvs x.kind
    ·have hne:¬ kEvs x.kind→x.l=[]:=fun h=>absurd e h
     rw [decide_eq_true e]
     (refine rn ?_;intros);refine ExL.val rJ rJ rJ (vl_neqT_f (a:=x.c) (b:=Clk.zero) rJ rJ c2) ?_;(refine rn ?_;intros)
     exact HC _ _ ⟨_,rB,h5,hca,hnu,hnc,hne,lcons rfl rfl,rfl⟩
    rw [decide_eq_false e]
    by_cases e2:x.l.length=0
    ·have hne:¬ kEvs x.kind→x.l=[]:=fun h=>List.eq_nil_of_length_eq_zero e2
     (refine rn ?_;intros);refine ExL.val rJ rJ rJ (vl_neqT_f (a:=x.c) (b:=Clk.zero) rJ rJ c2) ?_;(refine rn ?_;intros)
     exact HC _ _ ⟨_,rB,h5,hca,hnu,hnc,hne,lcons rfl rfl,rfl⟩
    ·(refine rn ?_;intros);refine ExL.val rJ rJ rJ (vl_neqT_f (a:=x.c) (b:=Clk.zero) rJ rJ c2) ?_;(refine rn ?_;intros)
     (refine fr ?_)
     exact ⟨_,rB,⟨false,by simp;exact fun h=>e2 (by rw [h.ne e];rfl),rfl⟩,rfl⟩
   ·(refine rn ?_;intros);refine ExL.val rJ rJ rJ (vl_neqT_t (a:=x.c) (b:=Clk.zero) rJ rJ c2) ?_;(refine rn ?_;intros)
    (refine fr ?_)
    exact ⟨_,rB,⟨false,by simp;exact fun h=>c2 (h.nc c),rfl⟩,rfl⟩
  ·rw [decide_eq_false u]
   have u0:=hnu u
   by_cases c:kClk x.kind
   ·have hnc:¬ kClk x.kind→x.c=Clk.zero:=fun h=>absurd c h
    rw [decide_eq_true c]
    by_cases e:kEvs x.kind
    ·have hne:¬ kEvs x.kind→x.l=[]:=fun h=>absurd e h
     rw [decide_eq_true e]
     (refine rn ?_;intros)
     exact HC _ _ ⟨_,rB,h5,hca,hnu,hnc,hne,lcons rfl rfl,rfl⟩
    rw [decide_eq_false e]
    by_cases e2:x.l.length=0
    ·have hne:¬ kEvs x.kind→x.l=[]:=fun h=>List.eq_nil_of_length_eq_zero e2
     (refine rn ?_;intros)
     exact HC _ _ ⟨_,rB,h5,hca,hnu,hnc,hne,lcons rfl rfl,rfl⟩
    ·(refine rn ?_;intros)
     (refine fr ?_)
     exact ⟨_,rB,⟨false,by simp;exact fun h=>e2 (by rw [h.ne e];rfl),rfl⟩,rfl⟩
   rw [decide_eq_false c]
   by_cases c2:x.c=Clk.zero
   ·have hnc:¬ kClk x.kind→x.c=Clk.zero:=fun _=>c2
    by_cases e:kEvs x.kind
    ·have hne:¬ kEvs x.kind→x.l=[]:=fun h=>absurd e h
     rw [decide_eq_true e]
     (refine rn ?_;intros);refine ExL.val rJ rJ rJ (vl_neqT_f (a:=x.c) (b:=Clk.zero) rJ rJ c2) ?_;(refine rn ?_;intros)
     exact HC _ _ ⟨_,rB,h5,hca,hnu,hnc,hne,lcons rfl rfl,rfl⟩
    rw [decide_eq_false e]
    by_cases e2:x.l.length=0
    ·have hne:¬ kEvs x.kind→x.l=[]:=fun h=>List.eq_nil_of_length_eq_zero e2
     (refine rn ?_;intros);refine ExL.val rJ rJ rJ (vl_neqT_f (a:=x.c) (b:=Clk.zero) rJ rJ c2) ?_;(refine rn ?_;intros)
     exact HC _ _ ⟨_,rB,h5,hca,hnu,hnc,hne,lcons rfl rfl,rfl⟩
    ·(refine rn ?_;intros);refine ExL.val rJ rJ rJ (vl_neqT_f (a:=x.c) (b:=Clk.zero) rJ rJ c2) ?_;(refine rn ?_;intros)
     (refine fr ?_)
     exact ⟨_,rB,⟨false,by simp;exact fun h=>e2 (by rw [h.ne e];rfl),rfl⟩,rfl⟩
   ·(refine rn ?_;intros);refine ExL.val rJ rJ rJ (vl_neqT_t (a:=x.c) (b:=Clk.zero) rJ rJ c2) ?_;(refine rn ?_;intros)
    (refine fr ?_)
    exact ⟨_,rB,⟨false,by simp;exact fun h=>c2 (h.nc c),rfl⟩,rfl⟩
end
end
end Go.Proofs.YtogcfijlhpaeeaaGreat
