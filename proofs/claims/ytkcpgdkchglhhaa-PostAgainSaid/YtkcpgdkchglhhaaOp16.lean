/- The calls of layer 16, read. No condition. -/
import Derived.Test.YtkcpgdkchglhhaaArgEv
import Derived.Test.YtkcpgdkchglhhaaArgP
import Derived.Test.YtkcpgdkchglhhaaPostO
namespace Go.Proofs.Ytkcpgdkchglhhaa
open Go.ChangeShapes Go.WideShapes Go.ChangeAt Go.RowKit
set_option linter.unusedSimpArgs false
set_option linter.unusedVariables false
set_option maxRecDepth 20000
theorem okT_clk {H : Type} {enc : TypeId × Value → H} {P : Program} {w : World} {t e : TypeId} {cs : List Value} (hu : P.underlying t = some (.array 5 e)) (hc : P.cellsOf t = 5) (hu2 : P.underlying e = some (.int .i64)) (hc2 : P.cellsOf e = 1) (h : OkT enc P w t cs) : ∃ c : Clk, cs = Rep.cells c ∧ c.I := by
  obtain ⟨xs, e, hl, hg⟩ := okT_arrayL (α := Int) I64 hu (by rw [hc2]; rfl) (by rw [hc]; rfl) (fun ecs h => okT_i64 hu2 h) h
  match xs, hl with
  | [a, b, c, d, f], _ => exact ⟨⟨a, b, c, d, f⟩, e, fun i hi => by
      match i, hi with
      | 0, _ => exact hg a (by simp)
      | 1, _ => exact hg b (by simp)
      | 2, _ => exact hg c (by simp)
      | 3, _ => exact hg d (by simp)
      | 4, _ => exact hg f (by simp)⟩
theorem okT_op16 {H : Type} {enc : TypeId × Value → H} {w : World} {cs : List Value} (h : OkT enc Try.prog w 36 cs) : ∃ o : Op16, cs = Rep.cells o ∧ o.Ok [Base w] := by
  obtain ⟨hl, hf⟩ := okT_struct Try.underlying36 h
  have hl : cs.length = 10 := hl
  obtain ⟨a, e1, i1, i2⟩ := okT_u8i (by kernel_rfl) (hf 0 _ rfl)
  obtain ⟨b, e2, i3, i4⟩ := okT_u8i (by kernel_rfl) (hf 1 _ rfl)
  obtain ⟨c, e3, i5, i6⟩ := okT_u8i (by kernel_rfl) (hf 2 _ rfl)
  obtain ⟨r, e4, i7⟩ := okT_i64 (by kernel_rfl) (hf 3 _ rfl)
  obtain ⟨k, e5, i8⟩ := okT_clk (e := 3) (by kernel_rfl) (by kernel_rfl) (by kernel_rfl) (by kernel_rfl) (hf 4 _ rfl)
  obtain ⟨v, l, e6, o, s, ev, bd⟩ := okT_evs (hf 5 _ rfl)
  match cs, hl with
  | [x0, x1, x2, x3, x4, x5, x6, x7, x8, x9], _ =>
    have e1 : [x0] = [Value.int .u8 a] := e1
    have e2 : [x1] = [Value.int .u8 b] := e2
    have e3 : [x2] = [Value.int .u8 c] := e3
    have e4 : [x3] = [Value.int .i64 r] := e4
    have e5 : [x4, x5, x6, x7, x8] = [Value.int .i64 k.a, Value.int .i64 k.b, Value.int .i64 k.c, Value.int .i64 k.d, Value.int .i64 k.e] := e5
    have e6 : [x9] = [v] := e6
    cases e1; cases e2; cases e3; cases e4; cases e5; cases e6
    exact ⟨⟨a, b, c, r, k, v, o, l⟩, rfl, ⟨i1, i2⟩, ⟨i3, i4⟩, ⟨i5, i6⟩, i7, i8, RdT.base 0 rfl s, fun e he => (ev e he).n⟩
theorem okT_ops16 {H : Type} {enc : TypeId × Value → H} {w : World} {cs : List Value} (h : OkT enc Try.prog w 24 cs) :
    ∃ v, ∃ l : List Op16, cs = [v] ∧ v.oneCell' = true ∧ Sl w v 10 l.length (cellsOf l) ∧ (∀ o ∈ l, o.Ok [Base w]) ∧ l.length ≤ 140737488351232 := by
  obtain ⟨v, xs, h1, h2, h3, h4, h5⟩ := okT_list (α := Op16) (fun o => o.Ok [Base w]) Try.underlying24 (by kernel_rfl) (fun ecs h => okT_op16 h) h
  refine ⟨v, xs, h1, h2, h3, h4, ?_⟩
  have hb : Try.prog.bytesOf 36 = 80 := by kernel_rfl
  rw [hb] at h5
  simp [reachBytes] at h5
  omega
end Go.Proofs.Ytkcpgdkchglhhaa
