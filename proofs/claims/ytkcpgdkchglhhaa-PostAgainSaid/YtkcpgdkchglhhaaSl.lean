/- Slices as lists: what a slice value reads as in a world. No condition. -/
import Derived.Test.YtkcpgdkchglhhaaPut
import Derived.Laws.BytesArg
import Derived.Deep.Slices
namespace Go.Proofs.Ytkcpgdkchglhhaa
open Go.RowKit
set_option linter.unusedSimpArgs false
set_option linter.unusedVariables false
/-- The slice value v has k elements of n cells each, and its cells are cs. -/
def Sl (w : World) (v : Value) (n k : Nat) (cs : List Value) : Prop :=
  cs.length = k * n ∧ ∃ a cap, v = .slice a k cap ∧ k ≤ cap ∧ cap ≤ maxLen ∧ (a = none → cap = 0) ∧ ∀ ad, a = some ad → ∀ j u, cs[j]? = some u → w.cell? (ad.add j) = some u
theorem Sl.kp {w w' : World} {v : Value} {n k : Nat} {cs : List Value} (h : Sl w v n k cs) (hk : Kp w w') : Sl w' v n k cs := by
  obtain ⟨h1, a, cap, h2, h3, h4, h5, h6⟩ := h
  refine ⟨h1, a, cap, h2, h3, h4, h5, fun ad ha j u hu => ?_⟩
  have := h6 ad ha j u hu
  rw [← this]
  exact Kp.cell hk (World.block_lt_of_cell? w _ this)
theorem Sl.nil (w : World) (n : Nat) : Sl w (.slice none 0 0) n 0 [] := ⟨by simp, none, 0, rfl, Nat.le_refl _, Nat.zero_le _, fun _ => rfl, fun ad h => by cases h⟩
theorem Sl.of_own {w : World} {base e size : Nat} {v : Value} {k : Nat} {cs : List Value} (h : w.ownsRow base e size v k cs) : Sl w v size k cs := by
  refine ⟨h.1, ?_⟩
  rcases h.2 with ⟨rfl, rfl⟩ | ⟨g, cap, cur, rfl, _, _, hn, hc, _, _⟩
  · exact ⟨none, 0, rfl, Nat.le_refl _, Nat.zero_le _, fun _ => rfl, fun ad h => by cases h⟩
  · refine ⟨some ⟨g, 0, none⟩, cap, rfl, hn, hc, (fun h => by cases h), fun ad ha j u hu => ?_⟩
    cases ha
    exact h.cells (g := g) rfl j u hu
/-- Bytes as cells, numbers as cells. -/
def byteVals (l : List UInt8) : List Value := l.map fun b => .int .u8 b.toNat
theorem byteVals_len (l : List UInt8) : (byteVals l).length = l.length := by simp [byteVals]
theorem byteVals_get (l : List UInt8) (i : Nat) (h : i < l.length) : (byteVals l)[i]? = some (.int .u8 (l[i]'h).toNat) := by simp [byteVals, h]
theorem strOfNums_bytes (l : List UInt8) : strOfNums (l.map fun b => (b.toNat : Int)) = ⟨l.toArray⟩ := by
  have h := strOfNums_data (l.map fun b => (b.toNat : Int))
  rw [List.map_map] at h
  have e : (l.map ((fun n : Int => UInt8.ofNat n.toNat) ∘ fun b : UInt8 => (b.toNat : Int))) = l := by
    conv => rhs; rw [← List.map_id l]
    apply List.map_congr_left
    intro b _
    simp
  rw [e] at h
  cases hs : strOfNums (l.map fun b => (b.toNat : Int)) with
  | mk d =>
    rw [hs] at h
    simp only at h
    rw [← h]
/-- string(b). -/
theorem Sl.str {P : Program} {w : World} {v : Value} {k : Nat} {l : List UInt8} (h : Sl w v 1 k (byteVals l)) {src e dst : TypeId} (hs : P.underlying src = some (.slice e)) (he : P.underlying e = some (.int .u8))
    (hd : P.underlying dst = some .string) : (convert src dst v).run P w = .ok (.string ⟨l.toArray⟩) w := by
  obtain ⟨h1, a, cap, rfl, h3, h4, h5, h6⟩ := h
  rw [byteVals_len] at h1
  cases a with
  | none =>
    have : l = [] := List.eq_nil_of_length_eq_zero (by have := h5 rfl; omega)
    subst this
    rw [run_convert_bytes_nil w src e hs he k cap dst hd]
    rfl
  | some ad =>
    by_cases hz : l = []
    · subst hz
      obtain rfl : k = 0 := by simpa using h1.symm
      rw [run_convert_bytes_string w src dst e _ 0 cap hs he hd]
      simp [Conv.bytesToString, loadCells, loadCellsFrom]
      rfl
    · have hpos : 0 < l.length := List.length_pos_iff.2 hz
      have hp : ad.spot = none := by
        have := h6 ad rfl 0 _ (byteVals_get l 0 hpos)
        simp only [Addr.add, if_true] at this
        cases hs : ad.spot with
        | none => rfl
        | some s =>
          exfalso
          simp only [World.cell?, hs] at this
          split at this <;> simp at this
      obtain ⟨b, off, sp⟩ := ad
      simp only at hp
      subst hp
      rw [run_convert_bytes_arg w src e hs he b off k cap (l.map fun b => (b.toNat : Int)) (by simp; omega) (fun i hi => by
        have := h6 ⟨b, off, none⟩ rfl i _ (byteVals_get l i (by omega))
        have e1 : (⟨b, off, none⟩ : Addr).add i = ⟨b, off + i, none⟩ := by unfold Addr.add; split <;> simp_all
        rw [e1] at this
        rw [this]
        simp [List.getD, show i < l.length by omega]) dst hd, strOfNums_bytes]
end Go.Proofs.Ytkcpgdkchglhhaa
