/- The operations of InboxPlays, read. No condition. -/
import Derived.Test.YtmjpdibjdgjhgaaArgEv
import Derived.Test.YtmjpdibjdgjhgaaLaw13
namespace Go.Proofs.Ytmjpdibjdgjhgaa
open Go.ChangeShapes Go.WideShapes Go.ChangeAt Go.RowKit
set_option linter.unusedSimpArgs false
set_option linter.unusedVariables false
set_option maxRecDepth 20000
theorem okT_op13 {H : Type} {enc : TypeId × Value → H} {w : World} {cs : List Value} (h : OkT enc Try.prog w 58 cs) : ∃ o : Op13, cs = Rep.cells o ∧ o.Ok [Base w] := by
  obtain ⟨hl, hf⟩ := okT_struct Try.underlying58 h
  have hl : cs.length = 2 := hl
  obtain ⟨a, e1, i1, i2⟩ := okT_u8i (by kernel_rfl) (hf 0 _ rfl)
  obtain ⟨v, l, e4, o, s, ev, bd⟩ := okT_evs (hf 1 _ rfl)
  match cs, hl with
  | [x, u], _ =>
    have e1 : [x] = [Value.int .u8 a] := e1
    have e4 : [u] = [v] := e4
    cases e1; cases e4
    exact ⟨⟨a, v, o, l⟩, rfl, ⟨i1, i2⟩, RdT.base 0 rfl s, fun e he => (ev e he).n⟩
theorem okT_ops13 {H : Type} {enc : TypeId × Value → H} {w : World} {cs : List Value} (h : OkT enc Try.prog w 52 cs) :
    ∃ v, ∃ l : List Op13, cs = [v] ∧ v.oneCell' = true ∧ Sl w v 2 l.length (cellsOf l) ∧ (∀ o ∈ l, o.Ok [Base w]) ∧ l.length ≤ 140737488351232 := by
  obtain ⟨v, xs, h1, h2, h3, h4, h5⟩ := okT_list (α := Op13) (fun o => o.Ok [Base w]) Try.underlying52 (by kernel_rfl) (fun ecs h => okT_op13 h) h
  refine ⟨v, xs, h1, h2, h3, h4, ?_⟩
  have hb : Try.prog.bytesOf 58 = 32 := by kernel_rfl
  rw [hb] at h5
  simp [reachBytes] at h5
  omega
end Go.Proofs.Ytmjpdibjdgjhgaa
