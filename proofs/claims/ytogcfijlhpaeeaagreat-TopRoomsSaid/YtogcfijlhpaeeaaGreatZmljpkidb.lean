/- Texts, one behind the other. No condition. -/
import Derived.Test.YtogcfijlhpaeeaaGreatChecked
import Derived.Test.YtogcfijlhpaeeaaGreatZajmfbmbb
import Derived.Test.YtogcfijlhpaeeaaGreatZccaibcad
import Derived.Test.YtogcfijlhpaeeaaGreatZcdhpjgdh
import Derived.Test.YtogcfijlhpaeeaaGreatZdjglmago
import Derived.Test.YtogcfijlhpaeeaaGreatZehjcikgl
import Derived.Test.YtogcfijlhpaeeaaGreatZmppiaoch
open Go.RowKit
set_option linter.unusedSimpArgs false
set_option linter.unusedVariables false
set_option linter.unusedSectionVars false
set_option maxHeartbeats 32000000
namespace Go.Proofs.YtogcfijlhpaeeaaGreat
section
def bitB (b:List UInt8) (q:Nat):Bool:=(b.getD (q / 8) 0).toNat.testBit (q % 8)
def flipB (b:List UInt8) (p:Nat):List UInt8:=b.set (p / 8) (b.getD (p / 8) 0 ^^^ UInt8.ofNat (2 ^ (p % 8)))
def burstN (b:List UInt8) (k mask:Nat):Nat→List UInt8
 | 0=>b
 | i+1=>if mask.testBit i=true∧k+i<8 * b.length then flipB (burstN b k mask i) (k+i) else burstN b k mask i
@[reducible] def burstB (b:List UInt8) (k mask:Nat):List UInt8:=burstN b k mask 32
theorem flipB_len (b:List UInt8) (p:Nat):(flipB b p).length=b.length:=by simp [flipB]
theorem burstN_len (b:List UInt8) (k mask:Nat):∀ i,(burstN b k mask i).length=b.length
 | 0=>rfl
 | i+1=>by
  simp only [burstN]
  split
  ·rw [flipB_len,burstN_len b k mask i]
  ·exact burstN_len b k mask i
theorem pow_u8 {m:Nat} (h:m<8):(UInt8.ofNat (2 ^ m)).toNat=2 ^ m:=by
 have:m=0∨m=1∨m=2∨m=3∨m=4∨m=5∨m=6∨m=7:=by omega
 rcases this with rfl | rfl | rfl | rfl | rfl | rfl | rfl | rfl <;> rfl
theorem bit_flip {b:List UInt8} {p:Nat} (hp:p<8 * b.length) (q:Nat):bitB (flipB b p) q=(bitB b q ^^ decide (q=p)):=by
 unfold bitB flipB
 by_cases hq:q / 8=p / 8
 ·rw [hq]
  have hlt:p / 8<b.length:=by omega
  simp only [List.getD_eq_getElem?_getD,List.getElem?_set_self hlt,Option.getD_some,UInt8.toNat_xor,Nat.testBit_xor,pow_u8 (show p % 8<8 by omega),Nat.testBit_two_pow]
  congr 1
  by_cases h:q=p
  ·subst h;simp
  ·rw [decide_eq_false h,decide_eq_false rM]
 ·rw [decide_eq_false (by intro h;subst h;exact hq rfl)]
  simp only [List.getD_eq_getElem?_getD,List.getElem?_set_ne (Ne.symm hq),Bool.xor_false]
theorem bit_burstN {b:List UInt8} {k mask:Nat} (q:Nat):∀ i,bitB (burstN b k mask i) q=(bitB b q ^^ (decide (k≤q∧q<k+i∧q<8 * b.length) && mask.testBit (q - k)))
 | 0=>by
  rw [decide_eq_false rM]
  simp [burstN]
 | i+1=>by
  have ih:=bit_burstN (b:=b) (k:=k) (mask:=mask) q i
  simp only [burstN]
  by_cases hq:q=k+i
  ·subst hq
   rw [decide_eq_false rM] at ih
   simp only [Bool.false_and,Bool.xor_false] at ih
   by_cases hc:k+i<8 * b.length
   ·rw [decide_eq_true rM,Bool.true_and,show k+i - k=i by omega]
    cases hm:mask.testBit i with
    | true=>rw [if_pos ⟨rfl,hc⟩,bit_flip (by rw [burstN_len];exact hc),ih,decide_eq_true rfl]
    | false=>rw [if_neg (by simp),ih,Bool.xor_false]
   ·rw [decide_eq_false rM,if_neg rM,ih];simp
  ·have hd:decide (k≤q∧q<k+(i+1)∧q<8 * b.length)=decide (k≤q∧q<k+i∧q<8 * b.length):=by
    apply decide_eq_decide.2;omega
   rw [hd,← ih]
   split
   ·rename_i h
    rw [bit_flip (by rw [burstN_len];exact h.2),decide_eq_false hq,Bool.xor_false]
   ·rfl
theorem ofInt_nat (n m:Nat):BitVec.ofInt n (m:Int)=BitVec.ofNat n m:=by
 apply BitVec.eq_of_toNat_eq
 simp
theorem xor_u8 (x y:UInt8):bits .xor .u8 (x.toNat:Int) (y.toNat:Int)=((x ^^^ y).toNat:Int):=by
 have hx:=x.toNat_lt
 have hy:=y.toNat_lt
 have:(BitVec.ofInt 8 (x.toNat:Int) ^^^ BitVec.ofInt 8 (y.toNat:Int)).toNat=(x ^^^ y).toNat:=by
  rw [BitVec.toNat_xor,ofInt_nat,ofInt_nat,BitVec.toNat_ofNat,BitVec.toNat_ofNat,UInt8.toNat_xor,Nat.mod_eq_of_lt hx,Nat.mod_eq_of_lt hy]
 show IntKind.u8.wrap ((BitVec.ofInt 8 (x.toNat:Int) ^^^ BitVec.ofInt 8 (y.toNat:Int)).toNat:Nat)=_
 rw [this]
 exact wrap_u8 rM (by have:=(x ^^^ y).toNat_lt;omega)
theorem shl1_u8 {z:Int} {m:Nat} (hz:z=(m:Int)) (hm:m<8):IntKind.u8.wrap (1 * 2 ^ (min z.toNat IntKind.u8.bits))=((UInt8.ofNat (2 ^ m)).toNat:Int):=by
 subst hz
 rw [Int.toNat_natCast,show min m IntKind.u8.bits=m from Nat.min_eq_left (show m≤8 by omega)]
 have:m=0∨m=1∨m=2∨m=3∨m=4∨m=5∨m=6∨m=7:=by omega
 rcases this with rfl | rfl | rfl | rfl | rfl | rfl | rfl | rfl <;> rfl
theorem and1 (k:IntKind) (hk:k.bits=8∨k.bits=32) (hw:∀ z:Int,0≤z→z≤1→k.wrap z=z) (N:Nat):bits .and k (N:Int) 1=((N % 2:Nat):Int):=by
 have:(BitVec.ofInt k.bits (N:Int) &&& BitVec.ofInt k.bits 1).toNat=N % 2:=by
  rw [BitVec.toNat_and,ofInt_nat,show (1:Int)=((1:Nat):Int) from rfl,ofInt_nat,BitVec.toNat_ofNat,BitVec.toNat_ofNat]
  rcases hk with hk | hk <;> rw [hk] <;> simp only [Nat.reducePow,Nat.one_mod,Nat.reduceMod,Nat.and_one_is_mod] <;> omega
 show k.wrap ((BitVec.ofInt k.bits (N:Int) &&& BitVec.ofInt k.bits 1).toNat:Nat)=_
 rw [this]
 exact hw _ rM rM
theorem shr_nat {N i:Nat} {k:Nat} (hi:i≤k) {z:Int} (hz:z=(i:Int)):Int.fdiv (N:Int) (2 ^ (min z.toNat k))=((N >>> i:Nat):Int):=by
 subst hz
 rw [Int.toNat_natCast,Nat.min_eq_left hi,Nat.shiftRight_eq_div_pow,Int.fdiv_eq_ediv_of_nonneg _ (Int.pow_nonneg rM)]
 simp
theorem tb_mod (N i:Nat):((N >>> i) % 2:Nat)=if N.testBit i=true then 1 else 0:=by
 rw [Nat.testBit_eq_decide_div_mod_eq,Nat.shiftRight_eq_div_pow]
 by_cases h:N / 2 ^ i % 2=1
 ·rw [decide_eq_true h,if_pos rfl];exact h
 ·rw [decide_eq_false h,if_neg (by simp)];omega
theorem mask_bit {N i:Nat} (hi:i≤32) {z:Int} (hz:z=(i:Int)):bits .and .u32 (Int.fdiv (N:Int) (2 ^ (min z.toNat IntKind.u32.bits))) 1=if N.testBit i=true then 1 else 0:=by
 have h1:=shr_nat (N:=N) (k:=32) hi hz
 have h2:=and1 .u32 (.inr rfl) (fun z h0 h1=>wrap_u32 h0 rM) (N >>> i)
 rw [tb_mod] at h2
 rw [show IntKind.u32.bits=32 from rfl,h1,h2]
 split <;> rfl
end
section
theorem xor_half (a b:Nat):(a ^^^ b) / 2=a / 2 ^^^ b / 2:=by
 have:=@Nat.xor_div_two a b
 exact this
theorem xor_mod2 (a b:Nat):(a ^^^ b) % 2=(a % 2+b % 2) % 2:=by
 have h:=Nat.testBit_xor a b 0
 simp only [Nat.testBit_zero] at h
 rcases Nat.mod_two_eq_zero_or_one a with ha | ha <;> rcases Nat.mod_two_eq_zero_or_one b with hb | hb <;> rcases Nat.mod_two_eq_zero_or_one (a ^^^ b) with hc | hc <;> simp [ha,hb,hc] at h ⊢
theorem crcBit_xor (a b:Nat):crcBit (a ^^^ b)=crcBit a ^^^ crcBit b:=by
 have hm:=xor_mod2 a b
 have hh:=xor_half a b
 unfold crcBit
 rcases Nat.mod_two_eq_zero_or_one a with ha | ha <;> rcases Nat.mod_two_eq_zero_or_one b with hb | hb
 ·rw [if_neg rM,if_neg rM,if_neg rM,hh]
 ·rw [if_pos rM,if_neg rM,if_pos hb,hh,Nat.xor_assoc]
 ·rw [if_pos rM,if_pos ha,if_neg rM,hh,Nat.xor_assoc,Nat.xor_assoc,Nat.xor_comm (b / 2)]
 ·rw [if_neg rM,if_pos ha,if_pos hb,hh,Nat.xor_assoc,← Nat.xor_assoc (3988292384) (b / 2),Nat.xor_comm 3988292384 (b / 2),Nat.xor_assoc (b / 2),Nat.xor_self,Nat.xor_zero]
theorem crcN_xor (a b:Nat):∀ k,crcN k (a ^^^ b)=crcN k a ^^^ crcN k b
 | 0=>rfl
 | k+1=>by
  show crcBit (crcN k (a ^^^ b))=_
  rw [crcN_xor a b k,crcBit_xor];rfl
theorem crcN_add (x:Nat) (j:Nat):∀ k,crcN (j+k) x=crcN k (crcN j x)
 | 0=>rfl
 | k+1=>by
  show crcBit (crcN (j+k) x)=_
  rw [crcN_add x j k];rfl
theorem crcBit_even (x:Nat):crcBit (2 * x)=x:=by unfold crcBit;rw [if_neg rM];omega
theorem crcN_shift (x:Nat):∀ k,crcN k (2 ^ k * x)=x
 | 0=>by simp [crcN]
 | k+1=>by
  have:crcN (1+k) (2 ^ (k+1) * x)=x:=by
   rw [crcN_add]
   have h1:crcN 1 (2 ^ (k+1) * x)=2 ^ k * x:=by
    show crcBit (2 ^ (k+1) * x)=_
    rw [show 2 ^ (k+1) * x=2 * (2 ^ k * x) by rw [Nat.pow_succ,Nat.mul_comm (2 ^ k) 2,Nat.mul_assoc],crcBit_even]
   rw [h1,crcN_shift x k]
  rwa [Nat.add_comm] at this
theorem crcBit_zero {r:Nat} (h:r<2 ^ 32) (e:crcBit r=0):r=0:=by
 unfold crcBit at e
 split at e
 ·have h1:r / 2=3988292384:=by
   have:=congrArg (· ^^^ 3988292384) e
   simp only [Nat.xor_assoc,Nat.xor_self,Nat.xor_zero,Nat.zero_xor] at this
   exact this
  omega
 ·omega
theorem crcN_zero {r:Nat} (h:r<2 ^ 32):∀ k,crcN k r=0→r=0
 | 0,e=>e
 | k+1,e=>crcN_zero h k (crcBit_zero (crcN_lt h k) e)
def valB:List UInt8→Nat
 | []=>0
 | c::l=>c.toNat+256 * valB l
theorem xor_add_256 (c x:Nat) (h:c<256):c ^^^ (256 * x)=c+256 * x:=by
 apply Nat.eq_of_testBit_eq
 intro i
 rw [Nat.testBit_xor]
 have e:c+256 * x=2 ^ 8 * x+c:=by omega
 rw [e,Nat.testBit_two_pow_mul_add x (show c<2 ^ 8 by omega),show 256 * x=2 ^ 8 * x by omega,Nat.testBit_two_pow_mul]
 by_cases hi:i<8
 ·rw [if_pos hi,decide_eq_false rM];simp
 ·rw [if_neg hi,decide_eq_true rM,Nat.testBit_lt_two_pow (x:=c) (i:=i) (Nat.lt_of_lt_of_le h (by exact Nat.pow_le_pow_right (n:=2) rM (show 8≤i by omega)))];simp
theorem crcFold_val:∀ (l:List UInt8) (r:Nat),l.foldl crcStep r=crcN (8 * l.length) (r ^^^ valB l)
 | [],r=>by simp [crcN,valB]
 | c::l,r=>by
  rw [List.foldl_cons,crcFold_val l]
  unfold crcStep
  rw [List.length_cons,show 8 * (l.length+1)=8+8 * l.length by omega,crcN_add]
  congr 1
  have h1:valB (c::l)=c.toNat ^^^ 256 * valB l:=by rw [xor_add_256 _ _ c.toNat_lt];rfl
  rw [h1,← Nat.xor_assoc,crcN_xor (r ^^^ c.toNat),show 256 * valB l=2 ^ 8 * valB l by omega,crcN_shift]
theorem valB_bit:∀ (l:List UInt8) (q:Nat),(valB l).testBit q=bitB l q
 | [],q=>by simp [valB,bitB]
 | c::l,q=>by
  show (c.toNat+256 * valB l).testBit q=_
  rw [show c.toNat+256 * valB l=2 ^ 8 * valB l+c.toNat by omega,Nat.testBit_two_pow_mul_add _ (show c.toNat<2 ^ 8 from c.toNat_lt)]
  by_cases hq:q<8
  ·rw [if_pos hq]
   unfold bitB
   rw [show q / 8=0 by omega,show q % 8=q by omega];simp
  ·rw [if_neg hq,valB_bit l]
   unfold bitB
   rw [show q / 8=(q - 8) / 8+1 by omega,show (q - 8) % 8=q % 8 by omega];simp
theorem bytes4_val (s:Nat) (h:s<2 ^ 32):valB [UInt8.ofNat (s / 2 ^ (8 * 0) % 256),UInt8.ofNat (s / 2 ^ (8 * 1) % 256),UInt8.ofNat (s / 2 ^ (8 * 2) % 256),UInt8.ofNat (s / 2 ^ (8 * 3) % 256)]=s:=by
 simp only [valB,UInt8.toNat_ofNat']
 omega
theorem crcSeal_fold (l:List UInt8):(crcSeal l).foldl crcStep 4294967295=crcN 32 4294967295:=by
 unfold crcSeal
 rw [List.foldl_append,crcFold_val (crcTail l)]
 have hv:valB (crcTail l)=crcSum l:=bytes4_val _ (crcSum_lt l)
 rw [hv,crcTail_len]
 unfold crcSum
 rw [Nat.xor_comm 4294967295,← Nat.xor_assoc,Nat.xor_self,Nat.zero_xor]
theorem crc_burst {b:List UInt8} {k mask:Nat} (hk:k<8 * b.length) (h1:crcOpen b≠none) (hne:burstB b k mask≠b):crcOpen (burstB b k mask)=none:=by
 cases h2:crcOpen (burstB b k mask) with
 | none=>rfl
 | some l2 =>
  exfalso
  obtain ⟨l1,h1⟩:=Option.ne_none_iff_exists'.1 h1
  have e1:=crcSeal_fold l1
  have e2:=crcSeal_fold l2
  rw [← crcOpen_some h1,crcFold_val] at e1
  rw [← crcOpen_some h2,crcFold_val,burstN_len] at e2
  have e3:crcN (8 * b.length) (valB b ^^^ valB (burstB b k mask))=0:=by
   have h3:(4294967295 ^^^ valB b) ^^^ (4294967295 ^^^ valB (burstB b k mask))=valB b ^^^ valB (burstB b k mask):=by
    rw [Nat.xor_comm 4294967295 (valB b),Nat.xor_assoc,← Nat.xor_assoc 4294967295,Nat.xor_self,Nat.zero_xor]
   rw [← h3,crcN_xor,e1,e2,Nat.xor_self]
  have hb:∀ q,(valB b ^^^ valB (burstB b k mask)).testBit q=(decide (k≤q∧q<k+32∧q<8 * b.length) && mask.testBit (q - k)):=fun q=>by
   rw [Nat.testBit_xor,valB_bit,valB_bit,bit_burstN,← Bool.xor_assoc,Bool.xor_self,Bool.false_xor]
  have hx:valB b ^^^ valB (burstB b k mask)=2 ^ k * ((valB b ^^^ valB (burstB b k mask)) / 2 ^ k):=by
   apply Nat.eq_of_testBit_eq
   intro q
   rw [Nat.testBit_two_pow_mul,Nat.testBit_div_two_pow]
   by_cases hq:k≤q
   ·rw [decide_eq_true hq,Bool.true_and,show q - k+k=q by omega]
   ·rw [decide_eq_false hq,hb,decide_eq_false rM];rfl
  have hlt:(valB b ^^^ valB (burstB b k mask)) / 2 ^ k<2 ^ 32:=by
   apply Nat.lt_pow_two_of_testBit
   intro q hq
   rw [Nat.testBit_div_two_pow,hb,decide_eq_false rM];rfl
  rw [hx,show 8 * b.length=k+(8 * b.length - k) by omega,crcN_add,crcN_shift] at e3
  have e4:=crcN_zero hlt _ e3
  rw [e4,Nat.mul_zero] at hx
  have e5:valB b=valB (burstB b k mask):=by
   have:=congrArg (· ^^^ valB (burstB b k mask)) hx
   simpa [Nat.xor_assoc] using this
  apply hne
  have inj:∀ (x y:List UInt8),x.length=y.length→valB x=valB y→x=y:=by
   intro x
   induction x with
   | nil=>intro y hl _;cases y with
    | nil=>rfl
    | cons=>simp at hl
   | cons c x ih =>
    intro y hl hv
    cases y with
    | nil=>simp at hl
    | cons d y =>
     have hv':c.toNat+256 * valB x=d.toNat+256 * valB y:=hv
     have hc:=c.toNat_lt
     have hd:=d.toNat_lt
     have:c=d:=UInt8.toNat_inj.1 rM
     subst this
     rw [ih y (by simpa using hl) rM]
  exact inj _ _ (burstN_len b k mask 32) e5.symm
end
section
def Reads {α:Type} [Rep α] (h:Frag) (v:Value) (xs:List α):Prop:=∀ w:World,(∀ n o,h n=some o→w.heap[n]?=some o)→Sl w v (Rep.sz α) xs.length (cellsOf xs)
def Aren (bs:List Bv):Assn:=fun h=>∀ b∈bs,Reads h b.v b.l
theorem sats_self {A:Assn} {h:Frag} (a:A h) {w:World} (hw:∀ n o,h n=some o→w.heap[n]?=some o):Sats w [A] (fun _=>none):=by
 refine ⟨h,a,fun n=>.inr rfl,fun n o e=>hw n o ?_⟩
 unfold Frag.add at e
 cases hh:h n with
 | none=>rw [hh] at e;exact e
 | some x=>rw [hh] at e;exact e
theorem RowT.reads {α:Type} [Rep α] {v:Value} {t:TypeId} {xs:List α} {h:Frag} (a:RowT v t xs h):Reads h v xs:=fun w hw=>RdT.row (L:=[RowT v t xs]) 0 rfl w _ (sats_self a hw)
theorem Reads.left {α:Type} [Rep α] {h k:Frag} {v:Value} {xs:List α} (r:Reads h v xs):Reads (h.add k) v xs:=fun w hw=>r w fun n o e=>hw n o (by unfold Frag.add;rw [e])
theorem Reads.right {α:Type} [Rep α] {h k:Frag} {v:Value} {xs:List α} (d:h.disj k) (r:Reads k v xs):Reads (h.add k) v xs:=fun w hw=>r w fun n o e=>hw n o (by
 unfold Frag.add
 rcases d n with h' | h'
 ·rw [h'];exact e
 ·rw [h'] at e;cases e)
theorem RdT.aren {L:List Assn} {bs:List Bv} {b:Bv} (i:Nat) (hi:L[i]?=some (Aren bs)) (hb:b∈bs):RdT L b.v b.l:=fun w F s=>by
 obtain ⟨h,a,d,s'⟩:=Sats.pick hi s
 exact a b hb w (Sats.frame_left s')
theorem Aren.nil (L:List Assn):Sub (Aren []::L) L:=fun w F s=>by
 refine ⟨fun _=>none,fun b hb=>(by cases hb),fun n=>Or.inl rfl,?_⟩
 have:Frag.add (fun _=>none) F=F:=by funext n;rfl
 rw [this];exact s
theorem add_assoc_comm {a b c:Frag} (d:b.disj a):(a.add b).add c=b.add (a.add c):=by
 funext n
 unfold Frag.add
 rcases d n with h | h
 ·rw [h];try (cases a n <;> rfl)
 ·rw [h];try (cases b n <;> rfl)
theorem Aren.addA {A:Assn} {b:Bv} {bs:List Bv} (hA:∀ h,A h→Reads h b.v b.l) (L:List Assn):Sub (Aren (b::bs)::L) (A::Aren bs::L):=fun w F ⟨h,a,d,k,ak,dk,s⟩=>by
 rw [Frag.disj_add] at dk
 refine ⟨h.add k,fun x hx=>?_,?_,?_⟩
 ·rcases List.mem_cons.1 hx with rfl | hx
  ·exact (hA h a).left
  ·exact (ak x hx).right (Frag.disj_symm dk.1)
 ·intro n
  rcases d n with h1 | h1
  ·rcases dk.2 n with h2 | h2
   ·left;unfold Frag.add;rw [h1];exact h2
   ·exact .inr h2
  ·exact .inr h1
 ·rw [add_assoc_comm dk.1];exact s
theorem Aren.add {b:Bv} {v:Value} {t:TypeId} {l:List UInt8} {bs:List Bv} (hv:b.v=v) (hl:b.l=l) (L:List Assn):Sub (Aren (b::bs)::L) (RowT v t l::Aren bs::L):=by
 subst hv;subst hl
 exact Aren.addA (fun h a=>a.reads) L
end
section
structure Fl where
 to:Int
 b:Bv
instance:Rep Fl:=⟨2,fun f=>[.int .i64 f.to,f.b.v],by decide,fun _=>rfl,fun f=>by simp [f.b.one];rfl⟩
instance:ZRep Tryz.prog 47 Fl:=⟨⟨0,⟨.slice none 0 0,rfl,[]⟩⟩,by kernel_rfl,by kernel_rfl⟩
@[reducible] def Fl.key (f:Fl):Int×List UInt8:=(f.to,f.b.l)
@[reducible] def LkO (g:Nat) (v:Value):Assn:=Blk g 197 [v]
@[reducible] def Fls (v:Value) (fs:List Fl):Assn:=RowT v 47 fs
@[reducible] def By (v:Value) (b:List UInt8):Assn:=RowT v 5 b
def cpF (fs:List Fl) (i:Int):Int×List UInt8×Int:=if h:0≤i∧i<fs.length then ((fs[i.toNat]'rM).to,(fs[i.toNat]'rM).b.l,0) else (0,[],24)
def tkF (fs:List Fl) (i:Int):List Fl:=if 0≤i∧i<fs.length then fs.take i.toNat++fs.drop (i.toNat+1) else fs
theorem cpF_in {fs:List Fl} {i:Int} (h:0≤i∧i<fs.length):cpF fs i=((fs[i.toNat]'rM).to,(fs[i.toNat]'rM).b.l,0):=by unfold cpF;rw [dif_pos h]
theorem cpF_out {fs:List Fl} {i:Int} (h:¬(0≤i∧i<fs.length)):cpF fs i=(0,[],24):=by unfold cpF;rw [dif_neg h]
theorem tkF_in {fs:List Fl} {i:Int} (h:0≤i∧i<fs.length):tkF fs i=fs.take i.toNat++fs.drop (i.toNat+1):=by unfold tkF;rw [if_pos h]
theorem tkF_out {fs:List Fl} {i:Int} (h:¬(0≤i∧i<fs.length)):tkF fs i=fs:=by unfold tkF;rw [if_neg h]
theorem tkF_sub {fs:List Fl} {i:Int} {f:Fl} (h:f∈tkF fs i):f∈fs:=by
 unfold tkF at h
 split at h
 ·rcases List.mem_append.1 h with h | h
  ·exact List.mem_of_mem_take h
  ·exact List.mem_of_mem_drop h
 ·exact h
set_option maxRecDepth 20000 attribute [local irreducible] Ex ExL Fn thn inb rnd fin meet Tab Mix mxEnd Val Sats RdT Rd RowT Row Blk Sub Fac ResV RVal Evs subs subs3 Hid Capd
section
theorem link_New (L:List Assn):Fn Tryz.prog 56 #[] L fun v L'=>∃ g,v=.pointer (some ⟨g,0,none⟩)∧L'=LkO g (.slice none 0 0)::Fls (.slice none 0 0) []::L:=by
 refine Fn.of_ex Tryz.func56 rfl Tryz.ntmps56 rfl ?_
 (refine rn ?_;intros)
 (refine fr ?_)
 exact ⟨_,Sub.cons _ (Sub.empty none _ _),_,rfl,rfl⟩
theorem link_Len (g:Nat) (v0:Value) (fs:List Fl) (M:List Assn):Fn Tryz.prog 85 #[.pointer (some ⟨g,0,none⟩)] (LkO g v0::Fls v0 fs::M)
  fun r L'=>r=.int .i64 fs.length∧L'=LkO g v0::Fls v0 fs::M:=by
 refine Fn.of_ex Tryz.func85 rfl Tryz.ntmps85 rfl ?_
 exact re0
theorem link_Send (g0:Nat) (to:Int) (v0 x:Value) (fs:List Fl) (xs:List UInt8) (bs:List Bv) (M:List Assn) (hx:RdT M x xs) (hb:fs.length≤1000000000) (hl:xs.length≤140737488355328) (o0:v0.oneCell'=true):Fn Tryz.prog 107 #[.pointer (some ⟨g0,0,none⟩),.int .i64 to,x] (LkO g0 v0::Fls v0 fs::Aren bs::M)
  fun r L'=>∃ (v':Value) (b:Bv),v'.oneCell'=true∧b.l=xs∧L'=LkO g0 v'::Fls v' (fs++[⟨to,b⟩])::Aren (b::bs)::M:=by
 refine Fn.of_ex Tryz.func107 rfl Tryz.ntmps107 rfl ?_
 refine Ex.reord [1] rE ?_
 (refine Ex.mixA 11 (_::_::M) rfl rQ rF ?_;(refine mn ?_;(repeat (first | intro (g:Nat) | intro (v:Value) | intro h))))
 (refine mx_act rJ rJ rJ ?_;refine st_callIs [] rJ Tryz.call162 rE rJ (clone_bytes x xs _ rD hl) ?_)
 rintro r _ ⟨hr,rfl⟩
 (refine ExL.nil ?_;refine mxEnd_n rF ?_;(refine mn ?_;(repeat (first | intro (g:Nat) | intro (v:Value) | intro h))))
 refine mx_slice1T (a:=(⟨to,⟨r,hr,xs⟩⟩:Fl)) rJ rJ rJ rJ (fun g=>?_)
 (refine mn ?_;(repeat (first | intro (v:Value) | intro h)))
 (refine rn ?_;(repeat (first | intro (v:Value) | intro h)))
 (refine fr ?_)
 refine ⟨_,?_,v,⟨r,hr,xs⟩,by assumption,rfl,rfl⟩
 refine Sub.fr [2,4] rE (Sub.trans ?_ (Aren.add (b:=⟨r,hr,xs⟩) rfl rfl _))
 exact Sub.fr [3,2] rE rB
theorem link_Copy (g0:Nat) (i:Int) (v0:Value) (fs:List Fl) (bs:List Bv) (M:List Assn) (hbs:∀ f∈fs,f.b∈bs) (hl:∀ f∈fs,f.b.l.length≤140737488355328):Fn Tryz.prog 94 #[.pointer (some ⟨g0,0,none⟩),.int .i64 i] (LkO g0 v0::Fls v0 fs::Aren bs::M)
  fun r L'=>∃ u:Value,u.oneCell'=true∧r=.tuple #[.agg [.int .i64 (cpF fs i).1,u].toArray,.int .i64 (cpF fs i).2.2]∧L'=By u (cpF fs i).2.1::LkO g0 v0::Fls v0 fs::Aren bs::M:=by
 refine Fn.of_ex Tryz.func94 rfl Tryz.ntmps94 rfl ?_
 by_cases h:0≤i∧i<fs.length
 ·rw [cpF_in h]
  have hm:fs[i.toNat]'rM∈fs:=List.getElem_mem _
  have hrd:RdT [Aren bs] (fs[i.toNat]'rM).b.v (fs[i.toNat]'rM).b.l:=RdT.aren 0 rfl (hbs _ hm)
  have hl1:=hl _ hm
  (refine rn ?_;intros)
  (refine mu6 ?_;intros)
  (refine mx_act rJ rJ rJ ?_;refine st_callIs [] rJ Tryz.call162 rE rJ (clone_bytes _ _ _ (hrd.sub rB) hl1) ?_)
  rintro r _ ⟨hr,rfl⟩
  (refine mw ?_;intros)
  (refine rn ?_;intros)
  (refine fr ?_)
  exact ⟨_,rB,r,hr,rfl,rfl⟩
 ·rw [cpF_out h]
  by_cases h1:i<0
  ·(refine rn ?_;intros)
   (refine fr ?_)
   exact ⟨_,Sub.trans (Sub.empty none _ _) rB,.slice none 0 0,rfl,rfl,rfl⟩
  ·(refine rn ?_;intros)
   (refine fr ?_)
   exact ⟨_,Sub.trans (Sub.empty none _ _) rB,.slice none 0 0,rfl,rfl,rfl⟩
theorem delete_fls (v0:Value) (xs:List Fl) (i j:Nat) (M:List Assn) (hij:i≤j) (hj:j≤xs.length) (hb:xs.length≤1000000000) (o0:v0.oneCell'=true):Fn Tryz.prog 161 #[v0,.int .i64 i,.int .i64 j] (Fls v0 xs::M)
  fun r L'=>r.oneCell'=true∧L'=Fls r (xs.take i++xs.drop j)::M:=by
 refine Fn.of_ex Tryz.func161 rfl Tryz.ntmps161 rfl ?_
 by_cases h:i=j
 ·subst h
  (refine rn ?_;(repeat (first | intro (zs:List _) | intro h)))
  (refine fr ?_)
  exact ⟨_,rB,o0,by rw [List.take_append_drop]⟩
 ·refine Ex.know (RdT.row (xs:=xs) 0 rfl).capd ?_
  intro hcap
  (refine rn ?_;(repeat (first | intro (zs:List _) | intro h)))
  (refine Ex.mixA 7 M rfl rQ rF ?_;(refine mn ?_;(repeat (first | intro (zs:List _) | intro h))))
  (refine rn ?_;(repeat (first | intro (zs:List _) | intro h)))
  (refine fr ?_)
  refine ⟨_,?_,subs_one o0,rfl⟩
  have h2:∀ zs:List Fl,((xs.take i++xs.drop j++xs.drop (i+(xs.length - j))).take (i+(xs.length - j))++zs).take (i+(xs.length - j))=xs.take i++xs.drop j:=fun zs=>by
   have hl:(xs.take i++xs.drop j).length=i+(xs.length - j):=by simp;omega
   rw [← hl,List.take_left,List.take_left]
  have h3:=Sub.rowTo (α:=Fl) (L:=Fls v0 ((xs.take i++xs.drop j++xs.drop (i+(xs.length - j))).take (i+(xs.length - j))++List.replicate ((xs.take i++xs.drop j++xs.drop (i+(xs.length - j))).length - (i+(xs.length - j))) (ZRep.z 47))::M) 0 rfl (h:=i+(xs.length - j)) (by simp;omega) (sz:=2) rfl
  rw [h2] at h3
  exact h3
theorem link_Take (g0:Nat) (i:Int) (v0:Value) (fs:List Fl) (bs:List Bv) (M:List Assn) (hbs:∀ f∈fs,f.b∈bs) (hl:∀ f∈fs,f.b.l.length≤140737488355328) (hb:fs.length≤1000000000) (o0:v0.oneCell'=true):Fn Tryz.prog 93 #[.pointer (some ⟨g0,0,none⟩),.int .i64 i] (LkO g0 v0::Fls v0 fs::Aren bs::M)
  fun r L'=>∃ u v':Value,u.oneCell'=true∧v'.oneCell'=true∧r=.tuple #[.agg [.int .i64 (cpF fs i).1,u].toArray,.int .i64 (cpF fs i).2.2]∧L'=By u (cpF fs i).2.1::LkO g0 v'::Fls v' (tkF fs i)::Aren bs::M:=by
 refine Fn.of_ex Tryz.func93 rfl Tryz.ntmps93 rfl ?_
 (refine rn ?_;intros)
 refine st_callIs [3,3,3] rJ Tryz.call94 rE rJ (link_Copy g0 i v0 fs bs _ hbs hl) ?_
 rintro _ _ ⟨u,ou,rfl,rfl⟩
 by_cases h:0≤i∧i<fs.length
 ·rw [cpF_in h,tkF_in h]
  obtain ⟨n,rfl⟩:=Int.eq_ofNat_of_zero_le h.1
  (refine rn ?_;intros)
  refine st_callIs [3] rJ Tryz.call161 rE rJ (delete_fls v0 fs n (n+1) _ rM rM hb o0) ?_
  rintro v1 _ ⟨o1,rfl⟩
  (refine rn ?_;intros)
  (refine fr ?_)
  exact ⟨_,Sub.trans rB (fronts_sub [2,4,4,5] _),u,v1,ou,o1,rfl,rfl⟩
 ·rw [cpF_out h,tkF_out h]
  (refine rn ?_;intros)
  (refine fr ?_)
  exact ⟨_,Sub.trans (Sub.empty none _ _) rB,.slice none 0 0,v0,rfl,o0,rfl,rfl⟩
end
section
theorem burstN_stop {b:List UInt8} {k mask i:Nat} (h:8 * b.length≤k+i):∀ j,burstN b k mask (i+j)=burstN b k mask i
 | 0=>rfl
 | j+1=>by
  show burstN b k mask ((i+j)+1)=_
  simp only [burstN]
  rw [if_neg rM,burstN_stop h j]
theorem burstN_yes {b:List UInt8} {k mask i:Nat} (h:mask.testBit i=true) (hl:k+i<8 * b.length):burstN b k mask (i+1)=flipB (burstN b k mask i) (k+i):=by
 simp only [burstN];rw [if_pos ⟨h,hl⟩]
theorem burstN_no {b:List UInt8} {k mask i:Nat} (h:¬ (mask.testBit i=true∧k+i<8 * b.length)):burstN b k mask (i+1)=burstN b k mask i:=by
 simp only [burstN];rw [if_neg h]
theorem burst_nil (k mask:Nat):burstB [] k mask=[]:=List.eq_nil_of_length_eq_zero (by rw [burstN_len];rfl)
theorem ofNat_toNat_u8 (x:UInt8):UInt8.ofNat ((x.toNat:Int)).toNat=x:=by simp
theorem flip_val {b:List UInt8} {p:Nat} (hp:p<8 * b.length) {z:Int} {j:Nat} (hj:j=p / 8) (hjl:j<b.length) (hz:z=((p % 8:Nat):Int)):bits .xor .u8 ((b[j]'hjl).toNat:Int) (IntKind.u8.wrap (1 * 2 ^ (min z.toNat IntKind.u8.bits)))=(((b[j]'hjl) ^^^ UInt8.ofNat (2 ^ (p % 8))).toNat:Int):=by
 rw [shl1_u8 hz rM,xor_u8]
theorem flip_set {b:List UInt8} {p:Nat} {j:Nat} (hj:j=p / 8) (hjl:j<b.length):b.set j (UInt8.ofNat ((((b[j]'hjl) ^^^ UInt8.ofNat (2 ^ (p % 8))).toNat:Int)).toNat)=flipB b p:=by
 subst hj
 rw [ofNat_toNat_u8,flipB]
 congr 2
 simp [List.getD_eq_getElem?_getD,hjl]
theorem tmod_k {bit n:Int} {k:Nat} (hn:0<n) (hk:(k:Int)=bit % n):bit.tmod n=k∨(bit.tmod n=k - n∧(k:Int) - n<0):=by
 have h1:=Int.emod_lt_of_pos bit hn
 rw [Int.tmod_eq_emod,← hk]
 split
 ·left;omega
 ·right;omega
theorem link_Burst (x:Value) (b:List UInt8) (bit:Int) (k mask:Nat) (L:List Assn) (hr:RdT L x b) (hb:b.length≤1000000) (hm:mask<4294967296) (hbit:I64 bit) (hk:b.length≠0→(k:Int)=bit % (8 * b.length)) :
  Fn Tryz.prog 95 #[x,.int .i64 bit,.int .u32 mask] L fun r L'=>r.oneCell'=true∧L'=By r (burstB b k mask)::L:=by
 unfold I64 at hbit
 refine Fn.of_ex Tryz.func95 rfl Tryz.ntmps95 rfl ?_
 by_cases hz:b.length=0
 ·obtain rfl:=List.eq_nil_of_length_eq_zero hz
  rw [burst_nil]
  (refine rn ?_;intros)
  (refine fr ?_)
  exact ⟨_,Sub.empty none _ _,rfl,rfl⟩
 have hk:=hk hz
 have hn:(0:Int)<8 * b.length:=by omega
 have hkl:(k:Int)<8 * b.length:=by rw [hk];exact Int.emod_lt_of_pos _ hn
 have ht:=tmod_k hn hk
 clear hk hbit
 rcases ht with ht | ⟨ht,hlt0⟩
 all_goals
  (refine rn ?_;intros)
  rw [ht]
  (refine rn ?_;intros)
  try rw [show (k:Int) - 8 * b.length+8 * b.length=k by omega]
  refine st_callIs [] rJ Tryz.call162 rE rJ (clone_bytes x b _ rD rM) ?_
  rintro u _ ⟨ou,rfl⟩
  (refine rn ?_;intros)
  refine Ex.loop [10] (fun m vs L'=>∃ (i:Nat),i≤32∧m=32 - i∧vs=[.int .i64 i]∧L'=By u (burstN b k mask i)::L) 32 ⟨0,by omega,rfl,rfl,rfl⟩ ?_
  rintro m vs g1 L' ⟨i,hi,rfl,rfl,rfl⟩
  have hcl:=burstN_len b k mask i
  by_cases hlt:i<32∧k+i<8 * b.length
  ·obtain ⟨h1,h2⟩:=hlt
   have hmb:=mask_bit (N:=mask) (i:=i) (z:=(i:Int)) rM rfl
   by_cases hbt:mask.testBit i=true
   ·rw [if_pos hbt] at hmb
    (refine rn ?_;intros)
    (refine mu13 ?_;intros)
    rw [flip_val (b:=burstN b k mask i) (p:=k+i) rM (z:=((k:Int)+i) % 8) (j:=(k+i) / 8) rfl rM rM]
    have h255:=UInt8.toNat_lt ((burstN b k mask i)[(k+i) / 8]'rM ^^^ UInt8.ofNat (2 ^ ((k+i) % 8)))
    (refine rn ?_;intros)
    exact rnd_n ⟨32 - (i+1),_,by omega,rB,i+1,by omega,rfl,lcons (vint rM) rfl,by rw [burstN_yes hbt h2,← flip_set rfl rM];rfl⟩
   ·rw [if_neg hbt] at hmb
    (refine rn ?_;intros)
    exact rnd_n ⟨32 - (i+1),_,by omega,rB,i+1,by omega,rfl,lcons (vint rM) rfl,by rw [burstN_no (fun h=>hbt h.1)]⟩
  ·have hend:burstN b k mask i=burstB b k mask:=by
    by_cases h1:i=32
    ·rw [h1]
    ·have:=burstN_stop (b:=b) (k:=k) (mask:=mask) (i:=i) rM (32 - i)
     rw [show i+(32 - i)=32 by omega] at this
     exact this.symm
   rw [← hend]
   by_cases h1:i<32
   ·(refine rn ?_;intros)
    (refine fr ?_)
    exact ⟨_,rB,ou,rfl⟩
   ·(refine rn ?_;intros)
    (refine fr ?_)
    exact ⟨_,rB,ou,rfl⟩
end
end
section
abbrev Fk:=Int×List UInt8
def LkA (g:Nat) (fl:List Fk):Assn:=fun h=>∃ (v0:Value) (fs:List Fl) (bs:List Bv),v0.oneCell'=true∧fs.map Fl.key=fl∧(∀ f∈fs,f.b∈bs)∧Star [LkO g v0,Fls v0 fs,Aren bs] h
theorem LkA.fn {P:Program} {k:FuncId} {args:Array Value} {g:Nat} {fl:List Fk} {M:List Assn} {R:Value→List Assn→Prop}
  (h:∀ v0 fs bs,v0.oneCell'=true→fs.map Fl.key=fl→(∀ f∈fs,f.b∈bs)→Fn P k args (LkO g v0::Fls v0 fs::Aren bs::M) R):Fn P k args (LkA g fl::M) R:=fun F w0 w rr ⟨x,⟨v0,fs,bs,o,e,m,a⟩,d,s⟩ =>
 h v0 fs bs o e m F w0 w rr (Star.opens [LkO g v0,Fls v0 fs,Aren bs] M w F ⟨x,a,d,s⟩)
theorem LkA.cls {g:Nat} {fl:List Fk} {v0:Value} {fs:List Fl} {bs:List Bv} (o:v0.oneCell'=true) (e:fs.map Fl.key=fl) (m:∀ f∈fs,f.b∈bs) (M:List Assn):Sub (LkA g fl::M) (LkO g v0::Fls v0 fs::Aren bs::M) :=
 Sub.trans (Sub.cons' (fun _ a=>⟨v0,fs,bs,o,e,m,a⟩) (Sub.refl M)) (Star.closes [LkO g v0,Fls v0 fs,Aren bs] M)
def cpK (fl:List Fk) (i:Int):Int×List UInt8×Int:=if 0≤i∧i<fl.length then ((fl.getD i.toNat (0,[])).1,(fl.getD i.toNat (0,[])).2,0) else (0,[],24)
def tkA {α:Type} (fl:List α) (i:Int):List α:=if 0≤i∧i<fl.length then fl.take i.toNat++fl.drop (i.toNat+1) else fl
theorem cpF_K (fs:List Fl) (i:Int):cpF fs i=cpK (fs.map Fl.key) i:=by
 unfold cpK
 by_cases h:0≤i∧i<fs.length
 ·rw [cpF_in h,if_pos (by rw [List.length_map];exact h)]
  have hi:i.toNat<fs.length:=by omega
  have e:(fs.map Fl.key).getD i.toNat (0,[])=(fs[i.toNat]'hi).key:=by simp [List.getD_eq_getElem?_getD,hi]
  rw [e]
 ·rw [cpF_out h,if_neg (by rw [List.length_map];exact h)]
theorem tkF_K (fs:List Fl) (i:Int):(tkF fs i).map Fl.key=tkA (fs.map Fl.key) i:=by
 unfold tkF tkA
 rw [List.length_map]
 split
 ·rw [List.map_append,List.map_take,List.map_drop]
 ·rfl
theorem key_len {fs:List Fl} {fl:List Fk} {B:Nat} (e:fs.map Fl.key=fl) (h:∀ x∈fl,x.2.length≤B):∀ f∈fs,f.b.l.length≤B:=fun f hf=>h f.key (by rw [← e];exact List.mem_map_of_mem hf)
attribute [local irreducible] Star Aren
theorem lkNewA (M:List Assn):Fn Tryz.prog 56 #[] M fun v L'=>∃ gl,v=ptrV gl∧L'=LkA gl []::M:=by
 refine (link_New M).resv ?_
 rintro v L' ⟨gl,rfl,rfl⟩
 exact ⟨_,Sub.trans (LkA.cls (fs:=[]) (bs:=[]) (v0:=.slice none 0 0) rfl rfl (by simp) M) (Sub.cons _ (Sub.cons _ (Aren.nil M))),gl,rfl,rfl⟩
theorem lkLenA (gl:Nat) (fl:List Fk) (M:List Assn):Fn Tryz.prog 85 #[ptrV gl] (LkA gl fl::M) fun v L'=>v=.int .i64 fl.length∧L'=LkA gl fl::M:=by
 refine LkA.fn fun v0 fs bs o e m=>?_
 refine (link_Len gl v0 fs (Aren bs::M)).resv ?_
 rintro v L' ⟨rfl,rfl⟩
 exact ⟨_,LkA.cls o e m M,by rw [← e,List.length_map],rfl⟩
theorem lkSendA (gl:Nat) (to:Int) (x:Value) (xs:List UInt8) (fl:List Fk) (M:List Assn) (hx:RdT M x xs) (hb:fl.length≤1000000000) (hl:xs.length≤140737488355328) :
  Fn Tryz.prog 107 #[ptrV gl,.int .i64 to,x] (LkA gl fl::M) fun v L'=>L'=LkA gl (fl++[(to,xs)])::M:=by
 refine LkA.fn fun v0 fs bs o e m=>?_
 refine (link_Send gl to v0 x fs xs bs M hx (by rw [← List.length_map (f:=Fl.key),e];exact hb) hl o).resv ?_
 rintro v L' ⟨v',b,o',hbl,rfl⟩
 refine ⟨_,LkA.cls o' (by rw [List.map_append,e,← hbl];rfl) (fun f hf=>?_) M,rfl⟩
 rcases List.mem_append.1 hf with hf | hf
 ·exact List.mem_cons_of_mem _ (m f hf)
 ·rw [List.mem_singleton.1 hf];exact List.mem_cons_self ..
theorem lkCopyA (gl:Nat) (i:Int) (fl:List Fk) (M:List Assn) (hl:∀ x∈fl,x.2.length≤140737488355328) :
  Fn Tryz.prog 94 #[ptrV gl,.int .i64 i] (LkA gl fl::M)
  fun r L'=>∃ u:Value,u.oneCell'=true∧r=.tuple #[.agg [.int .i64 (cpK fl i).1,u].toArray,.int .i64 (cpK fl i).2.2]∧L'=By u (cpK fl i).2.1::LkA gl fl::M:=by
 refine LkA.fn fun v0 fs bs o e m=>?_
 refine (link_Copy gl i v0 fs bs M m (key_len e hl)).resv ?_
 rw [cpF_K,e]
 rintro v L' ⟨u,ou,rfl,rfl⟩
 exact ⟨_,Sub.cons _ (LkA.cls o e m M),u,ou,rfl,rfl⟩
theorem lkTakeA (gl:Nat) (i:Int) (fl:List Fk) (M:List Assn) (hl:∀ x∈fl,x.2.length≤140737488355328) (hb:fl.length≤1000000000) :
  Fn Tryz.prog 93 #[ptrV gl,.int .i64 i] (LkA gl fl::M)
  fun r L'=>∃ u:Value,u.oneCell'=true∧r=.tuple #[.agg [.int .i64 (cpK fl i).1,u].toArray,.int .i64 (cpK fl i).2.2]∧L'=By u (cpK fl i).2.1::LkA gl (tkA fl i)::M:=by
 refine LkA.fn fun v0 fs bs o e m=>?_
 refine (link_Take gl i v0 fs bs M m (key_len e hl) (by rw [← List.length_map (f:=Fl.key),e];exact hb) o).resv ?_
 rw [cpF_K,e]
 rintro v L' ⟨u,v',ou,ov,rfl,rfl⟩
 exact ⟨_,Sub.cons _ (LkA.cls ov (by rw [tkF_K,e]) (fun f hf=>m f (tkF_sub hf)) M),u,ou,rfl,rfl⟩
end
section
structure Stp where
 kind:Int
 r:Int
 ed:Ed
 at_:Int
 bit:Int
 mask:Int
 keep:Int
deriving DecidableEq
instance:Rep Stp:=⟨10,fun s=>[.int .i64 s.kind,.int .i64 s.r,.int .i64 s.ed.kind,.string (S s.ed.key),.int .i64 s.ed.label,.string (S s.ed.value),.int .i64 s.at_,.int .i64 s.bit,.int .u32 s.mask,.int .i64 s.keep],by decide,fun _=>rfl,fun _=>rfl⟩
instance:ZRep Tryz.prog 29 Stp:=⟨⟨0,0,⟨0,[],0,[]⟩,0,0,0,0⟩,by kernel_rfl,by kernel_rfl⟩
end
section
structure WSt where
 nodes:List NSt
 hub:HSt
 fl:List (Int×Rcd)
def WSt.has (w:WSt) (r:Int):Prop:=0≤r∧r<w.nodes.length
instance (w:WSt) (r:Int):Decidable (w.has r):=by unfold WSt.has;infer_instance
def WSt.node (w:WSt) (r:Int):NSt:=w.nodes.getD r.toNat NSt.fresh
def WSt.upd (w:WSt) (r:Int) (s:NSt):WSt:={ w with nodes:=w.nodes.set r.toNat s }
def WSt.send (w:WSt) (p:Rcd×Int):WSt×Int:=(if p.2=0 then { w with fl:=w.fl++[(5,p.1)] } else w,p.2)
def WSt.arrive (w:WSt) (c:Cfg) (to:Int) (f:Rcd×Int):WSt×Int :=
 if w.has to then (w.upd to ((w.node to).takeC c to f).1,((w.node to).takeC c to f).2) else
 (if (w.hub.take c f).2.2.2=0∧w.has (w.hub.take c f).2.1 then { w with hub:=(w.hub.take c f).1,fl:=w.fl++[((w.hub.take c f).2.1,(w.hub.take c f).2.2.1)] } else { w with hub:=(w.hub.take c f).1 },(w.hub.take c f).2.2.2)
def burstF (x:Rcd) (bit mask:Int):Rcd×Int:=if burstB x.fbytes (bit % (8 * x.fbytes.length)).toNat mask.toNat=x.fbytes then (x,0) else (Rcd.zero,4)
def WSt.flight (w:WSt) (c:Cfg) (s:Stp):WSt×Int :=
 if 0≤s.at_∧s.at_<w.fl.length then
  let x:=w.fl.getD s.at_.toNat (0,Rcd.zero)
  let w2:WSt:=if s.kind=5 then w else { w with fl:=tkA w.fl s.at_ }
  if s.kind=6 then (w2,0) else w2.arrive c x.1 (if s.kind=7 then burstF x.2 s.bit s.mask else (x.2,0))
 else (w,24)
def WSt.power (w:WSt) (c:Cfg) (s:Stp):WSt×Int :=
 if w.has s.r then
  (if s.kind=8 then (w.upd s.r (w.node s.r).crash,0) else if s.kind=9 then (w.upd s.r ((w.node s.r).start c s.r).1,((w.node s.r).start c s.r).2) else (w.upd s.r ((w.node s.r).cut s.keep),0))
 else if s.r=5 then
  (if s.kind=8 then ({ w with hub:=w.hub.crash },0) else if s.kind=9 then ({ w with hub:=(w.hub.start c).1 },(w.hub.start c).2) else ({ w with hub:=w.hub.cut s.keep },0))
 else (w,1)
def WSt.step (w:WSt) (c:Cfg) (s:Stp):WSt×Int :=
 if 4≤s.kind∧s.kind≤7 then w.flight c s else
 if 8≤s.kind∧s.kind≤10 then w.power c s else
 if ¬ w.has s.r then (w,1) else
 if s.kind=0 then (w.upd s.r ((w.node s.r).edit c s.r s.ed).1,((w.node s.r).edit c s.r s.ed).2) else
 if s.kind=1 then w.send ((w.node s.r).push c s.r) else
 if s.kind=2 then w.send ((w.node s.r).tell s.r 3) else
 if s.kind=3 then w.send ((w.node s.r).tell s.r 5) else
 if s.kind=11 then (w.upd s.r ((w.node s.r).state s.r).1,((w.node s.r).state s.r).2) else (w,1)
def WSt.once (w:WSt) (c:Cfg) (p:Rcd×Int):WSt :=
 if p.2≠0 then w else
 let q:=w.hub.take c (p.1,0)
 let w1:WSt:={ w with hub:=q.1 }
 if q.2.2.2=0∧w1.has q.2.1 then w1.upd q.2.1 ((w1.node q.2.1).takeC c q.2.1 (q.2.2.1,0)).1 else w1
def WSt.tellK (w:WSt) (c:Cfg) (r:Int) (k:Nat):Rcd×Int:=if k=0 then (w.node r).push c r else if k=1 then (w.node r).tell r 3 else (w.node r).tell r 5
def WSt.roundK (w:WSt) (c:Cfg):Nat→WSt
 | 0=>w
 | k+1=>(w.roundK c k).once c ((w.roundK c k).tellK c (k / 3:Nat) (k % 3))
def WSt.round (w:WSt) (c:Cfg):WSt:=w.roundK c (3 * w.nodes.length)
structure StdN where
 clk:Clk
 sent:Int
 held:Int
 log:Int
deriving DecidableEq
def NSt.std (s:NSt):StdN:=⟨s.site.clk,s.site.sent,s.site.held.length,s.site.log.length⟩
def WSt.new (c:Cfg):WSt:=⟨(List.range c.n.toNat).map fun (i:Nat)=>(NSt.fresh.start c i).1,((HSt.fresh c).start c).1,[]⟩
structure WOk (k:Nat) (c:Cfg) (w:WSt):Prop where
 n:(w.nodes.length:Int)=c.n
 nd:∀ i (h:i<w.nodes.length),NOk k c i (w.nodes[i]'h)
 hub:HOk k c w.hub
 fl:w.fl.length≤2 * k∧∀ x∈w.fl,x.2.FMay
def WSt.keys (w:WSt):List Fk:=w.fl.map fun x=>(x.1,x.2.fbytes)
end
end Go.Proofs.YtogcfijlhpaeeaaGreat
