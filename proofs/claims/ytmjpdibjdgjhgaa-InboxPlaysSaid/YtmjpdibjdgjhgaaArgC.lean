/- Clocks among the arguments. No condition. -/
import Derived.Test.YtmjpdibjdgjhgaaArgEv
import Derived.Test.YtmjpdibjdgjhgaaRdy2
namespace Go.Proofs.Ytmjpdibjdgjhgaa
open Go.ChangeShapes Go.WideShapes Go.ChangeAt Go.RowKit
set_option linter.unusedSimpArgs false
set_option linter.unusedVariables false
theorem okT_clk {H : Type} {enc : TypeId × Value → H} {P : Program} {w : World} {t e : TypeId} {cs : List Value} (hu : P.underlying t = some (.array 5 e)) (hc : P.cellsOf t = 5) (hu2 : P.underlying e = some (.int .i64)) (hc2 : P.cellsOf e = 1) (h : OkT enc P w t cs) : ∃ c : Clk, cs = Rep.cells c ∧ c.I := by
  obtain ⟨xs, e, hl, hg⟩ := okT_arrayL (α := Int) I64 hu (by rw [hc2]; rfl) (by rw [hc]; rfl) (fun ecs h => okT_i64 hu2 h) h
  match xs, hl with
  | [a, b, c, d, f], _ => exact ⟨⟨a, b, c, d, f⟩, e, fun i hi => by
      match i, hi with
      | 0, _ => exact hg a (by simp)
      | 1, _ => exact hg b (by simp)
      | 2, _ => exact hg c (by simp)
      | 3, _ => exact hg d (by simp)
      | 4, _ => exact hg f (by simp)⟩
end Go.Proofs.Ytmjpdibjdgjhgaa
