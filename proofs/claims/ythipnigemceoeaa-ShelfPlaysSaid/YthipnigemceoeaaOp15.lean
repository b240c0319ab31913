/- The operations of ShelfPlays, read. No condition. -/
import Derived.Test.YthipnigemceoeaaArgEv
import Derived.Test.YthipnigemceoeaaLaw15e
namespace Go.Proofs.Ythipnigemceoeaa
open Go.ChangeShapes Go.WideShapes Go.ChangeAt Go.RowKit
set_option linter.unusedSimpArgs false
set_option linter.unusedVariables false
theorem okT_op15 {H : Type} {enc : TypeId × Value → H} {w : World} {cs : List Value} (h : OkT enc Try.prog w 31 cs) : ∃ o : Op15, cs = Rep.cells o ∧ o.Ok w := by
  obtain ⟨hl, hf⟩ := okT_struct Try.underlying31 h
  have hl : cs.length = 4 := hl
  obtain ⟨a, e1, i1, i2⟩ := okT_u8i (by kernel_rfl) (hf 0 _ rfl)
  obtain ⟨b, e2, i3, i4⟩ := okT_u8i (by kernel_rfl) (hf 1 _ rfl)
  obtain ⟨n, e3, i5⟩ := okT_i64 (by kernel_rfl) (hf 2 _ rfl)
  obtain ⟨v, l, e4, o, s, ev, bd⟩ := okT_evs (hf 3 _ rfl)
  match cs, hl with
  | [x, y, z, u], _ =>
    have e1 : [x] = [Value.int .u8 a] := e1
    have e2 : [y] = [Value.int .u8 b] := e2
    have e3 : [z] = [Value.int .i64 n] := e3
    have e4 : [u] = [v] := e4
    cases e1; cases e2; cases e3; cases e4
    exact ⟨⟨a, b, n, v, o, l⟩, rfl, ⟨i1, i2⟩, ⟨i3, i4⟩, i5, RdT.base 0 rfl s, bd, fun e he => (ev e he).n⟩
theorem okT_ops15 {H : Type} {enc : TypeId × Value → H} {w : World} {cs : List Value} (h : OkT enc Try.prog w 22 cs) :
    ∃ v, ∃ l : List Op15, cs = [v] ∧ v.oneCell' = true ∧ Sl w v 4 l.length (cellsOf l) ∧ (∀ o ∈ l, o.Ok w) ∧ l.length ≤ 140737488351232 := by
  obtain ⟨v, xs, h1, h2, h3, h4, h5⟩ := okT_list (α := Op15) (fun o => o.Ok w) Try.underlying22 (by kernel_rfl) (fun ecs h => okT_op15 h) h
  refine ⟨v, xs, h1, h2, h3, h4, ?_⟩
  have hb : Try.prog.bytesOf 31 = 40 := by kernel_rfl
  rw [hb] at h5
  simp [reachBytes] at h5
  omega
end Go.Proofs.Ythipnigemceoeaa
