/- The readings of slices of bytes among the arguments. No condition. -/
import Derived.Test.YtpamhedjdpfiaaaChecked
import Derived.Test.YtpamhedjdpfiaaaOpen
import Derived.Test.YtpamhedjdpfiaaaSl
namespace Go.Proofs.Ytpamhedjdpfiaaa
open Go.ChangeShapes Go.WideShapes Go.ChangeAt Go.RowKit
set_option linter.unusedSimpArgs false
set_option linter.unusedVariables false
section
variable {H : Type} {enc : TypeId × Value → H} {P : Program} {w : World} {base b0 : Nat} {spare : Nat → Bool} {held : Bool} {r : Reach} {v : Value} {d : DataW H} {p : List MemPlace} {t e : TypeId}
/-- A slice whose elements are cells of one kind of number. -/
theorem open_slice_ints {k : IntKind} (ht : P.underlying t = some (.slice e)) (he : P.underlying e = some (.int k)) (hc : P.cellsOf e = 1)
    (hv : Value.okWide P w r b0 t v) (h : DataW.Trod enc P w base (fun _ => true) held t v d p) : ∃ l : List Int, Sl w v 1 l.length (l.map (Value.int k)) ∧ ∀ n ∈ l, (Lit.int k n).wf = true := by
  obtain ⟨a, len, cap, rfl⟩ := okWide_slice ht hv
  obtain ⟨fuel, hf⟩ := h
  rcases open_ints ht he hc hf with ⟨hcs, _⟩ | ⟨x, l, c, zs, hcs, _, hl, hm, hz, _, hcell, hwz⟩
  · simp [Value.cells] at hcs
    obtain ⟨rfl, rfl, rfl⟩ := hcs
    exact ⟨[], Sl.nil _ _, by simp⟩
  · simp [Value.cells] at hcs
    obtain ⟨rfl, rfl, rfl⟩ := hcs
    have hz' : zs.length = cap := by simpa using hz
    have hlen : (zs.take len).length = len := by simp; omega
    refine ⟨zs.take len, ⟨by simp, some x, cap, by rw [hlen], by rw [hlen]; exact hl, hm, (fun h => by cases h), fun ad ha j u hu => ?_⟩, fun n hn => hwz n (List.mem_of_mem_take hn)⟩
    cases ha
    rw [List.getElem?_map] at hu
    cases hj : (zs.take len)[j]? with
    | none => rw [hj] at hu; simp at hu
    | some q =>
      rw [hj] at hu
      simp at hu
      subst hu
      have hjl : j < len := by
        rcases Nat.lt_or_ge j (zs.take len).length with h | h
        · omega
        · rw [List.getElem?_eq_none h] at hj; simp at hj
      have := hcell j (by omega)
      rw [this]
      rw [List.getElem?_take, if_pos hjl] at hj
      simp [List.getD, hj]
end
section
variable {H : Type} {enc : TypeId × Value → H} {w : World} {base b0 : Nat} {spare : Nat → Bool} {held : Bool} {r : Reach} {v : Value} {d : DataW H} {p : List MemPlace}
theorem open_bytes (hv : Value.okWide Try.prog w r b0 32 v) (h : DataW.Trod enc Try.prog w base (fun _ => true) held 32 v d p) : ∃ l : List UInt8, Sl w v 1 l.length (byteVals l) := by
  obtain ⟨l, hl, hw⟩ := open_slice_ints Try.underlying32 Try.underlying5 (by kernel_rfl) hv h
  have e : l.map (Value.int .u8) = byteVals (l.map fun n => UInt8.ofNat n.toNat) := by
    unfold byteVals
    rw [List.map_map]
    apply List.map_congr_left
    intro n hn
    have := u8_of_wf (hw n hn)
    simp
    omega
  rw [e] at hl
  exact ⟨l.map fun n => UInt8.ofNat n.toNat, by simpa using hl⟩
end
end Go.Proofs.Ytpamhedjdpfiaaa
