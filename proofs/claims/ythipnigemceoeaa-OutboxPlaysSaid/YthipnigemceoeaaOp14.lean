/- The operations of OutboxPlays, read. No condition. -/
import Derived.Test.YthipnigemceoeaaArgEv
import Derived.Test.YthipnigemceoeaaLaw14e
namespace Go.Proofs.Ythipnigemceoeaa
open Go.ChangeShapes Go.WideShapes Go.ChangeAt Go.RowKit
set_option linter.unusedSimpArgs false
set_option linter.unusedVariables false
theorem okT_op14 {H : Type} {enc : TypeId × Value → H} {w : World} {cs : List Value} (h : OkT enc Try.prog w 58 cs) : ∃ o : Op14, cs = Rep.cells o ∧ o.Ok := by
  obtain ⟨hl, hf⟩ := okT_struct Try.underlying58 h
  have hl : cs.length = 14 := hl
  obtain ⟨a, e1, i1, i2⟩ := okT_u8i (by kernel_rfl) (hf 0 _ rfl)
  obtain ⟨e, e2, he⟩ := okT_ev (hf 1 _ rfl)
  obtain ⟨n, e3, i5⟩ := okT_i64 (by kernel_rfl) (hf 2 _ rfl)
  match cs, hl with
  | [x0, x1, x2, x3, x4, x5, x6, x7, x8, x9, x10, x11, x12, x13], _ =>
    have e1 : [x0] = [Value.int .u8 a] := e1
    have e2 : [x1, x2, x3, x4, x5, x6, x7, x8, x9, x10, x11, x12] = [.int .i64 e.r, .int .i64 e.n, .int .i64 e.c.a, .int .i64 e.c.b, .int .i64 e.c.c, .int .i64 e.c.d, .int .i64 e.c.e, .int .i64 e.h, .int .i64 e.ed.kind, .string (S e.ed.key), .int .i64 e.ed.label, .string (S e.ed.value)] := e2
    have e3 : [x13] = [Value.int .i64 n] := e3
    cases e1; cases e2; cases e3
    exact ⟨⟨a, e, n⟩, rfl, ⟨i1, i2⟩, he.n, i5⟩
theorem okT_ops14 {H : Type} {enc : TypeId × Value → H} {w : World} {cs : List Value} (h : OkT enc Try.prog w 47 cs) :
    ∃ v, ∃ l : List Op14, cs = [v] ∧ v.oneCell' = true ∧ Sl w v 14 l.length (cellsOf l) ∧ (∀ o ∈ l, o.Ok) ∧ l.length ≤ 140737488351232 := by
  obtain ⟨v, xs, h1, h2, h3, h4, h5⟩ := okT_list (α := Op14) Op14.Ok Try.underlying47 (by kernel_rfl) (fun ecs h => okT_op14 h) h
  refine ⟨v, xs, h1, h2, h3, h4, ?_⟩
  have hb : Try.prog.bytesOf 58 = 128 := by kernel_rfl
  rw [hb] at h5
  simp [reachBytes] at h5
  omega
end Go.Proofs.Ythipnigemceoeaa
