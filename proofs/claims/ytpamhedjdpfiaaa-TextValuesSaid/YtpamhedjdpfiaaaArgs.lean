/- The readings of arguments, at this program's types. No condition. -/
import Derived.Test.YtpamhedjdpfiaaaChecked
import Derived.Test.YtpamhedjdpfiaaaOpen
import Derived.Test.YtpamhedjdpfiaaaClk
namespace Go.Proofs.Ytpamhedjdpfiaaa
open Go.ChangeShapes Go.WideShapes Go.ChangeAt Go.RowKit
set_option linter.unusedSimpArgs false
set_option linter.unusedVariables false
theorem hread_of {P : Program} {ts : List TypeId} (h : (ts.all fun t => P.readableRec t && decide (t < P.types.size)) = true) : ∀ t ∈ ts, P.readableRec t = true ∧ t < P.types.size := by
  intro t ht
  have := List.all_eq_true.1 h t ht
  simpa using this
theorem sized_cons {H : Type} {P : Program} {t : TypeId} {ts : List TypeId} {d : DataW H} {ds : List (DataW H)} (h : (DataW.weightsEach P (t :: ts) (d :: ds)).all (· ≤ reachBytes) = true) : (d.weights P t).all (· ≤ reachBytes) = true ∧ (DataW.weightsEach P ts ds).all (· ≤ reachBytes) = true := by
  rw [DataW.weightsEach, List.all_append, Bool.and_eq_true] at h
  exact h
section
variable {H : Type} {enc : TypeId × Value → H} {w : World} {base b0 : Nat} {spare : Nat → Bool} {held : Bool} {r : Reach} {v : Value} {d : DataW H} {p : List MemPlace}
theorem open_i64 (hv : Value.okWide Try.prog w r b0 3 v) (h : DataW.Trod enc Try.prog w base spare held 3 v d p) : ∃ n : Int, v = .int .i64 n ∧ I64 n := by
  obtain ⟨n, rfl, _, _, hw⟩ := open_int Try.underlying3 hv h
  exact ⟨n, rfl, i64_of_wf hw⟩
theorem open_u8 (hv : Value.okWide Try.prog w r b0 5 v) (h : DataW.Trod enc Try.prog w base spare held 5 v d p) : ∃ n : Int, v = .int .u8 n ∧ 0 ≤ n ∧ n ≤ 255 := by
  obtain ⟨n, rfl, _, _, hw⟩ := open_int Try.underlying5 hv h
  exact ⟨n, rfl, u8_of_wf hw⟩
theorem open_clk (hv : Value.okWide Try.prog w r b0 23 v) (h : DataW.Trod enc Try.prog w base spare held 23 v d p) : ∃ k : Clk, v = k.val ∧ ∀ i, I64 (k.get i) := by
  obtain ⟨l, rfl, hl, hw⟩ := open_arr Try.underlying23 Try.underlying3 (by kernel_rfl) (by kernel_rfl) hv h
  match l, hl with
  | [a, b, c, d, e], _ =>
    refine ⟨⟨a, b, c, d, e⟩, rfl, fun i => ?_⟩
    have h0 := i64_of_wf (hw 0 (by omega))
    have h1 := i64_of_wf (hw 1 (by omega))
    have h2 := i64_of_wf (hw 2 (by omega))
    have h3 := i64_of_wf (hw 3 (by omega))
    have h4 := i64_of_wf (hw 4 (by omega))
    match i with
    | 0 => exact h0
    | 1 => exact h1
    | 2 => exact h2
    | 3 => exact h3
    | 4 => exact h4
    | n + 5 => simp [Clk.get, I64]
theorem open_mark (hv : Value.okWide Try.prog w r b0 29 v) (h : DataW.Trod enc Try.prog w base spare held 29 v d p) : ∃ a b : Int, v = .agg #[.int .i64 a, .int .i64 b] ∧ I64 a ∧ I64 b := open_ints2 Try.underlying29 (by kernel_rfl) (by kernel_rfl) Try.underlying3 hv h rfl
theorem open_int2 (hv : Value.okWide Try.prog w r b0 39 v) (h : DataW.Trod enc Try.prog w base spare held 39 v d p) : ∃ a b : Int, v = .agg #[.int .i64 a, .int .i64 b] ∧ I64 a ∧ I64 b := by
  obtain ⟨l, rfl, hl, hw⟩ := open_arr Try.underlying39 Try.underlying3 (by kernel_rfl) (by kernel_rfl) hv h
  match l, hl with
  | [a, b], _ => exact ⟨a, b, rfl, i64_of_wf (hw 0 (by omega)), i64_of_wf (hw 1 (by omega))⟩
end
end Go.Proofs.Ytpamhedjdpfiaaa
