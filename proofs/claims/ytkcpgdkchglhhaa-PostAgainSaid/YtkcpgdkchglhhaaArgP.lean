/- Configs among the arguments. No condition. -/
import Derived.Test.YtkcpgdkchglhhaaSepG
import Derived.Test.YtkcpgdkchglhhaaPostA
namespace Go.Proofs.Ytkcpgdkchglhhaa
open Go.ChangeShapes Go.WideShapes Go.ChangeAt Go.RowKit
set_option linter.unusedSimpArgs false
set_option linter.unusedVariables false
set_option maxRecDepth 20000
def Cfg.I (c : Cfg) : Prop := I64 c.n ∧ I64 c.w ∧ I64 c.q ∧ I64 c.h ∧ I64 c.l ∧ I64 c.p
theorem okT_cfg {H : Type} {enc : TypeId × Value → H} {w : World} {cs : List Value} (h : OkT enc Try.prog w 23 cs) : ∃ c : Cfg, cs = Rep.cells c ∧ c.I := by
  obtain ⟨hl, hf⟩ := okT_struct Try.underlying23 h
  have hl : cs.length = 6 := hl
  obtain ⟨a, e1, i1⟩ := okT_i64 (by kernel_rfl) (hf 0 _ rfl)
  obtain ⟨b, e2, i2⟩ := okT_i64 (by kernel_rfl) (hf 1 _ rfl)
  obtain ⟨c, e3, i3⟩ := okT_i64 (by kernel_rfl) (hf 2 _ rfl)
  obtain ⟨d, e4, i4⟩ := okT_i64 (by kernel_rfl) (hf 3 _ rfl)
  obtain ⟨e, e5, i5⟩ := okT_i64 (by kernel_rfl) (hf 4 _ rfl)
  obtain ⟨f, e6, i6⟩ := okT_i64 (by kernel_rfl) (hf 5 _ rfl)
  match cs, hl with
  | [x1, x2, x3, x4, x5, x6], _ =>
    have e1 : [x1] = [Value.int .i64 a] := e1
    have e2 : [x2] = [Value.int .i64 b] := e2
    have e3 : [x3] = [Value.int .i64 c] := e3
    have e4 : [x4] = [Value.int .i64 d] := e4
    have e5 : [x5] = [Value.int .i64 e] := e5
    have e6 : [x6] = [Value.int .i64 f] := e6
    cases e1; cases e2; cases e3; cases e4; cases e5; cases e6
    exact ⟨⟨a, b, c, d, e, f⟩, rfl, i1, i2, i3, i4, i5, i6⟩
end Go.Proofs.Ytkcpgdkchglhhaa
