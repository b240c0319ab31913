/- Bits of bytes, bursts, in plain words. No condition. -/
import Derived.Test.YtjcjgaciakacoaaSepT
namespace Go.Proofs.Ytjcjgaciakacoaa
open Go.RowKit
set_option linter.unusedSimpArgs false
set_option linter.unusedVariables false
def bitB (b : List UInt8) (q : Nat) : Bool := (b.getD (q / 8) 0).toNat.testBit (q % 8)
def flipB (b : List UInt8) (p : Nat) : List UInt8 := b.set (p / 8) (b.getD (p / 8) 0 ^^^ UInt8.ofNat (2 ^ (p % 8)))
def burstN (b : List UInt8) (k mask : Nat) : Nat → List UInt8
  | 0 => b
  | i + 1 => if mask.testBit i = true ∧ k + i < 8 * b.length then flipB (burstN b k mask i) (k + i) else burstN b k mask i
@[reducible] def burstB (b : List UInt8) (k mask : Nat) : List UInt8 := burstN b k mask 32
theorem flipB_len (b : List UInt8) (p : Nat) : (flipB b p).length = b.length := by simp [flipB]
theorem burstN_len (b : List UInt8) (k mask : Nat) : ∀ i, (burstN b k mask i).length = b.length
  | 0 => rfl
  | i + 1 => by
    simp only [burstN]
    split
    · rw [flipB_len, burstN_len b k mask i]
    · exact burstN_len b k mask i
theorem pow_u8 {m : Nat} (h : m < 8) : (UInt8.ofNat (2 ^ m)).toNat = 2 ^ m := by
  have : m = 0 ∨ m = 1 ∨ m = 2 ∨ m = 3 ∨ m = 4 ∨ m = 5 ∨ m = 6 ∨ m = 7 := by omega
  rcases this with rfl | rfl | rfl | rfl | rfl | rfl | rfl | rfl <;> rfl
theorem bit_flip {b : List UInt8} {p : Nat} (hp : p < 8 * b.length) (q : Nat) : bitB (flipB b p) q = (bitB b q ^^ decide (q = p)) := by
  unfold bitB flipB
  by_cases hq : q / 8 = p / 8
  · rw [hq]
    have hlt : p / 8 < b.length := by omega
    simp only [List.getD_eq_getElem?_getD, List.getElem?_set_self hlt, Option.getD_some, UInt8.toNat_xor, Nat.testBit_xor, pow_u8 (show p % 8 < 8 by omega), Nat.testBit_two_pow]
    congr 1
    by_cases h : q = p
    · subst h; simp
    · rw [decide_eq_false h, decide_eq_false (by omega)]
  · rw [decide_eq_false (by intro h; subst h; exact hq rfl)]
    simp only [List.getD_eq_getElem?_getD, List.getElem?_set_ne (Ne.symm hq), Bool.xor_false]
theorem bit_burstN {b : List UInt8} {k mask : Nat} (q : Nat) : ∀ i, bitB (burstN b k mask i) q = (bitB b q ^^ (decide (k ≤ q ∧ q < k + i ∧ q < 8 * b.length) && mask.testBit (q - k)))
  | 0 => by
    rw [decide_eq_false (by omega)]
    simp [burstN]
  | i + 1 => by
    have ih := bit_burstN (b := b) (k := k) (mask := mask) q i
    simp only [burstN]
    by_cases hq : q = k + i
    · subst hq
      rw [decide_eq_false (by omega)] at ih
      simp only [Bool.false_and, Bool.xor_false] at ih
      by_cases hc : k + i < 8 * b.length
      · rw [decide_eq_true (by omega), Bool.true_and, show k + i - k = i by omega]
        cases hm : mask.testBit i with
        | true => rw [if_pos ⟨rfl, hc⟩, bit_flip (by rw [burstN_len]; exact hc), ih, decide_eq_true rfl]
        | false => rw [if_neg (by simp), ih, Bool.xor_false]
      · rw [decide_eq_false (by omega), if_neg (by omega), ih]; simp
    · have hd : decide (k ≤ q ∧ q < k + (i + 1) ∧ q < 8 * b.length) = decide (k ≤ q ∧ q < k + i ∧ q < 8 * b.length) := by
        apply decide_eq_decide.2; omega
      rw [hd, ← ih]
      split
      · rename_i h
        rw [bit_flip (by rw [burstN_len]; exact h.2), decide_eq_false hq, Bool.xor_false]
      · rfl
theorem bits_ext {a b : List UInt8} (hl : a.length = b.length) (h : ∀ q, q < 8 * a.length → bitB a q = bitB b q) : a = b := by
  refine List.ext_getElem hl fun i h1 h2 => ?_
  apply UInt8.toNat_inj.1
  refine Nat.eq_of_testBit_eq fun m => ?_
  by_cases hm : m < 8
  · have := h (8 * i + m) (by omega)
    unfold bitB at this
    rw [show (8 * i + m) / 8 = i by omega, show (8 * i + m) % 8 = m by omega] at this
    simpa [List.getD_eq_getElem?_getD, h1, h2] using this
  · have e1 : ∀ x : UInt8, x.toNat.testBit m = false := fun x => Nat.testBit_lt_two_pow (Nat.lt_of_lt_of_le x.toNat_lt (Nat.pow_le_pow_right (by omega) (show 8 ≤ m by omega)))
    rw [e1, e1]
theorem burst_twice (b : List UInt8) (k mask : Nat) : burstB (burstB b k mask) k mask = b := by
  refine bits_ext (by rw [burstN_len, burstN_len]) fun q hq => ?_
  rw [bit_burstN, bit_burstN, burstN_len]
  simp
theorem burst_zero (b : List UInt8) (k : Nat) : burstB b k 0 = b := by
  refine bits_ext (by rw [burstN_len]) fun q hq => ?_
  rw [bit_burstN]
  simp
theorem burst_past (b : List UInt8) (hb : 0 < b.length) : burstB b (8 * b.length - 1) 4294967294 = b := by
  refine bits_ext (by rw [burstN_len]) fun q hq => ?_
  rw [burstN_len] at hq
  rw [bit_burstN]
  by_cases h : 8 * b.length - 1 ≤ q
  · rw [show q - (8 * b.length - 1) = 0 by omega]
    have : Nat.testBit 4294967294 0 = false := by decide
    rw [this]; simp
  · rw [decide_eq_false (by omega)]; simp
theorem burst_one (b : List UInt8) (k : Nat) (hk : k < 8 * b.length) : burstB b k 1 = flipB b k := by
  refine bits_ext (by rw [burstN_len, flipB_len]) fun q hq => ?_
  rw [burstN_len] at hq
  rw [bit_burstN, bit_flip hk]
  congr 1
  by_cases h : q = k
  · subst h
    rw [decide_eq_true (by omega), Nat.sub_self, decide_eq_true rfl]; decide
  · rw [decide_eq_false h]
    by_cases h2 : k ≤ q
    · have : Nat.testBit 1 (q - k) = false := Nat.testBit_lt_two_pow (Nat.one_lt_two_pow (by omega))
      rw [this]; simp
    · rw [decide_eq_false (by omega)]; simp
theorem flip_ne (b : List UInt8) (k : Nat) (hk : k < 8 * b.length) : flipB b k ≠ b := fun h => by
  have := bit_flip hk k
  rw [h] at this
  simp at this
/-- The model's words for bits. -/
theorem ofInt_nat (n m : Nat) : BitVec.ofInt n (m : Int) = BitVec.ofNat n m := by
  apply BitVec.eq_of_toNat_eq
  simp
theorem xor_u8 (x y : UInt8) : bits .xor .u8 (x.toNat : Int) (y.toNat : Int) = ((x ^^^ y).toNat : Int) := by
  have hx := x.toNat_lt
  have hy := y.toNat_lt
  have : (BitVec.ofInt 8 (x.toNat : Int) ^^^ BitVec.ofInt 8 (y.toNat : Int)).toNat = (x ^^^ y).toNat := by
    rw [BitVec.toNat_xor, ofInt_nat, ofInt_nat, BitVec.toNat_ofNat, BitVec.toNat_ofNat, UInt8.toNat_xor, Nat.mod_eq_of_lt hx, Nat.mod_eq_of_lt hy]
  show IntKind.u8.wrap ((BitVec.ofInt 8 (x.toNat : Int) ^^^ BitVec.ofInt 8 (y.toNat : Int)).toNat : Nat) = _
  rw [this]
  exact wrap_u8 (by omega) (by have := (x ^^^ y).toNat_lt; omega)
theorem shl1_u8 {z : Int} {m : Nat} (hz : z = (m : Int)) (hm : m < 8) : IntKind.u8.wrap (1 * 2 ^ (min z.toNat IntKind.u8.bits)) = ((UInt8.ofNat (2 ^ m)).toNat : Int) := by
  subst hz
  rw [Int.toNat_natCast, show min m IntKind.u8.bits = m from Nat.min_eq_left (show m ≤ 8 by omega)]
  have : m = 0 ∨ m = 1 ∨ m = 2 ∨ m = 3 ∨ m = 4 ∨ m = 5 ∨ m = 6 ∨ m = 7 := by omega
  rcases this with rfl | rfl | rfl | rfl | rfl | rfl | rfl | rfl <;> rfl
theorem and1 (k : IntKind) (hk : k.bits = 8 ∨ k.bits = 32) (hw : ∀ z : Int, 0 ≤ z → z ≤ 1 → k.wrap z = z) (N : Nat) : bits .and k (N : Int) 1 = ((N % 2 : Nat) : Int) := by
  have : (BitVec.ofInt k.bits (N : Int) &&& BitVec.ofInt k.bits 1).toNat = N % 2 := by
    rw [BitVec.toNat_and, ofInt_nat, show (1 : Int) = ((1 : Nat) : Int) from rfl, ofInt_nat, BitVec.toNat_ofNat, BitVec.toNat_ofNat]
    rcases hk with hk | hk <;> rw [hk] <;> simp only [Nat.reducePow, Nat.one_mod, Nat.reduceMod, Nat.and_one_is_mod] <;> omega
  show k.wrap ((BitVec.ofInt k.bits (N : Int) &&& BitVec.ofInt k.bits 1).toNat : Nat) = _
  rw [this]
  exact hw _ (by omega) (by omega)
theorem shr_nat {N i : Nat} {k : Nat} (hi : i ≤ k) {z : Int} (hz : z = (i : Int)) : Int.fdiv (N : Int) (2 ^ (min z.toNat k)) = ((N >>> i : Nat) : Int) := by
  subst hz
  rw [Int.toNat_natCast, Nat.min_eq_left hi, Nat.shiftRight_eq_div_pow, Int.fdiv_eq_ediv_of_nonneg _ (Int.pow_nonneg (by omega))]
  simp
theorem tb_mod (N i : Nat) : ((N >>> i) % 2 : Nat) = if N.testBit i = true then 1 else 0 := by
  rw [Nat.testBit_eq_decide_div_mod_eq, Nat.shiftRight_eq_div_pow]
  by_cases h : N / 2 ^ i % 2 = 1
  · rw [decide_eq_true h, if_pos rfl]; exact h
  · rw [decide_eq_false h, if_neg (by simp)]; omega
theorem mask_bit {N i : Nat} (hi : i ≤ 32) {z : Int} (hz : z = (i : Int)) : bits .and .u32 (Int.fdiv (N : Int) (2 ^ (min z.toNat IntKind.u32.bits))) 1 = if N.testBit i = true then 1 else 0 := by
  have h1 := shr_nat (N := N) (k := 32) hi hz
  have h2 := and1 .u32 (.inr rfl) (fun z h0 h1 => wrap_u32 h0 (by omega)) (N >>> i)
  rw [tb_mod] at h2
  rw [show IntKind.u32.bits = 32 from rfl, h1, h2]
  split <;> rfl
theorem byte_bit {x y : UInt8} {i : Nat} (hi : i < 8) {z : Int} (hz : z = (i : Int)) : bits .and .u8 (Int.fdiv (bits .xor .u8 (x.toNat : Int) (y.toNat : Int)) (2 ^ (min z.toNat IntKind.u8.bits))) 1 = if (x ^^^ y).toNat.testBit i = true then 1 else 0 := by
  have h1 := shr_nat (N := (x ^^^ y).toNat) (k := 8) (show i ≤ 8 by omega) hz
  have h2 := and1 .u8 (.inl rfl) (fun z h0 h1 => wrap_u8 h0 (by omega)) ((x ^^^ y).toNat >>> i)
  rw [tb_mod] at h2
  rw [show IntKind.u8.bits = 8 from rfl, xor_u8, h1, h2]
  split <;> rfl
end Go.Proofs.Ytjcjgaciakacoaa
