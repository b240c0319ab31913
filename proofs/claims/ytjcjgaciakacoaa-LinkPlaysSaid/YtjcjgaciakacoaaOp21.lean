/- The operations of LinkPlays, read. No condition. -/
import Derived.Test.YtjcjgaciakacoaaSepG
import Derived.Test.YtjcjgaciakacoaaLaw21c
namespace Go.Proofs.Ytjcjgaciakacoaa
open Go.ChangeShapes Go.WideShapes Go.ChangeAt Go.RowKit
set_option linter.unusedSimpArgs false
set_option linter.unusedVariables false
theorem okT_op21 {H : Type} {enc : TypeId × Value → H} {w : World} {cs : List Value} (h : OkT enc Try.prog w 51 cs) : ∃ o : Op21, cs = Rep.cells o ∧ Sl w o.v 1 o.l.length (cellsOf o.l) ∧ o.l.length ≤ 140737488351232 ∧ 0 ≤ o.kind ∧ o.kind ≤ 255 := by
  obtain ⟨hl, hf⟩ := okT_struct Try.underlying51 h
  have hl : cs.length = 3 := hl
  obtain ⟨a, e1, i1, i2⟩ := okT_u8i (by kernel_rfl) (hf 0 _ rfl)
  obtain ⟨b, e2, i3⟩ := okT_i64 (by kernel_rfl) (hf 1 _ rfl)
  obtain ⟨v, l, e3, o, s, bd⟩ := okT_bytes (e := 5) (by kernel_rfl) (by kernel_rfl) (by kernel_rfl) (by kernel_rfl) (hf 2 _ rfl)
  match cs, hl with
  | [x, y, z], _ =>
    have e1 : [x] = [Value.int .u8 a] := e1
    have e2 : [y] = [Value.int .i64 b] := e2
    have e3 : [z] = [v] := e3
    cases e1; cases e2; cases e3
    exact ⟨⟨a, b, v, o, l⟩, rfl, s, bd, i1, i2⟩
theorem okT_ops21 {H : Type} {enc : TypeId × Value → H} {w : World} {cs : List Value} (h : OkT enc Try.prog w 43 cs) :
    ∃ v, ∃ l : List Op21, cs = [v] ∧ v.oneCell' = true ∧ Sl w v 3 l.length (cellsOf l) ∧ (∀ o ∈ l, Sl w o.v 1 o.l.length (cellsOf o.l) ∧ o.l.length ≤ 140737488351232 ∧ 0 ≤ o.kind ∧ o.kind ≤ 255) ∧ l.length ≤ 140737488351232 := by
  obtain ⟨v, xs, h1, h2, h3, h4, h5⟩ := okT_list (α := Op21) _ Try.underlying43 (by kernel_rfl) (fun ecs h => okT_op21 h) h
  refine ⟨v, xs, h1, h2, h3, h4, ?_⟩
  have hb : Try.prog.bytesOf 51 = 40 := by kernel_rfl
  rw [hb] at h5
  simp [reachBytes] at h5
  omega
end Go.Proofs.Ytjcjgaciakacoaa
