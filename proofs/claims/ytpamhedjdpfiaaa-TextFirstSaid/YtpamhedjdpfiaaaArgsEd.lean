/- The readings of edits, texts and their sizes, at this program's types. No condition. -/
import Derived.Test.YtpamhedjdpfiaaaArgs
import Derived.Test.YtpamhedjdpfiaaaText2
namespace Go.Proofs.Ytpamhedjdpfiaaa
open Go.ChangeShapes Go.WideShapes Go.ChangeAt Go.RowKit
open Go.ChangeMaps (open_string)
set_option linter.unusedSimpArgs false
set_option linter.unusedVariables false
section
variable {H : Type} {enc : TypeId × Value → H} {w : World} {base b0 : Nat} {spare : Nat → Bool} {held : Bool} {r : Reach} {v : Value} {d : DataW H} {p : List MemPlace}
theorem open_str (hv : Value.okWide Try.prog w r b0 9 v) (h : DataW.Trod enc Try.prog w base spare held 9 v d p) : ∃ s : ByteArray, v = .string s ∧ d = .lit (.string s.data.toList) ∧ s.size ≤ 9223372036854775807 := by
  obtain ⟨s, rfl, hd, _, hw⟩ := open_string Try.underlying9 hv h
  exact ⟨s, rfl, hd, by unfold maxLen at hw; exact hw⟩
theorem open_edit (hv : Value.okWide Try.prog w r b0 44 v) (h : DataW.Trod enc Try.prog w base spare held 44 v d p) :
    ∃ e : Ed, v = e.val ∧ d = .agg [.lit (.int .i64 e.kind), .lit (.string e.key.data.toList), .lit (.int .i64 e.label), .lit (.string e.value.data.toList)] ∧ I64 e.kind ∧ I64 e.label := by
  obtain ⟨v0, v1, v2, v3, y0, y1, y2, y3, n, rfl, rfl, _, h0, h1, h2, h3⟩ := Joins.open_agg4 Try.underlying44 (by kernel_rfl) (by kernel_rfl) hv h
  obtain ⟨a, ha, ea, wa⟩ := DataW.trod_int Try.underlying3 h0
  obtain ⟨k, hk, ek, wk⟩ := DataW.trod_string Try.underlying9 h1
  obtain ⟨l, hl, el, wl⟩ := DataW.trod_int Try.underlying3 h2
  obtain ⟨s, hs, es, ws⟩ := DataW.trod_string Try.underlying9 h3
  simp at ha hk hl hs
  subst ha hk hl hs ea ek el es
  exact ⟨⟨a, k, l, s⟩, rfl, rfl, i64_of_wf wa, i64_of_wf wl⟩
theorem edit_sized (e : Ed) (h : ((DataW.agg (H := H) [.lit (.int .i64 e.kind), .lit (.string e.key.data.toList), .lit (.int .i64 e.label), .lit (.string e.value.data.toList)]).weights Try.prog 44).all (· ≤ reachBytes) = true) :
    e.key.size ≤ 140737488351232 ∧ e.value.size ≤ 140737488351232 := by
  have e1 : (DataW.agg (H := H) [.lit (.int .i64 e.kind), .lit (.string e.key.data.toList), .lit (.int .i64 e.label), .lit (.string e.value.data.toList)]).weights Try.prog 44 = [e.key.data.toList.length, e.value.data.toList.length] := by
    simp only [DataW.weights, Try.underlying44, List.map, DataW.weightsEach]
    rfl
  rw [e1] at h
  simp [reachBytes] at h
  exact ⟨of_decide_eq_true h.1, of_decide_eq_true h.2⟩
end
end Go.Proofs.Ytpamhedjdpfiaaa
