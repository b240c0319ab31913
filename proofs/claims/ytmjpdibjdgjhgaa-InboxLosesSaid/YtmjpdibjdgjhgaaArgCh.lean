/- Choices among the arguments. No condition. -/
import Derived.Test.YtmjpdibjdgjhgaaArgEv
import Derived.Test.YtmjpdibjdgjhgaaArgM
import Derived.Test.YtmjpdibjdgjhgaaMakeD
namespace Go.Proofs.Ytmjpdibjdgjhgaa
open Go.ChangeShapes Go.WideShapes Go.ChangeAt Go.RowKit
set_option linter.unusedSimpArgs false
set_option linter.unusedVariables false
set_option maxRecDepth 20000
theorem okT_ed {H : Type} {enc : TypeId × Value → H} {w : World} {cs : List Value} (h : OkT enc Try.prog w 76 cs) : ∃ (k lb : Int) (key val : List UInt8), cs = [.int .i64 k, .string (S key), .int .i64 lb, .string (S val)] ∧ key.length ≤ 140737488351232 ∧ val.length ≤ 140737488351232 := by
  obtain ⟨hl, hf⟩ := okT_struct Try.underlying76 h
  have hl : cs.length = 4 := hl
  obtain ⟨k, e5, i6⟩ := okT_i64 (by kernel_rfl) (hf 0 _ rfl)
  obtain ⟨key, e6, i7⟩ := okT_txt (by kernel_rfl) (hf 1 _ rfl)
  obtain ⟨lb, e7, i8⟩ := okT_i64 (by kernel_rfl) (hf 2 _ rfl)
  obtain ⟨val, e8, i9⟩ := okT_txt (by kernel_rfl) (hf 3 _ rfl)
  match cs, hl with
  | [x4, x5, x6, x7], _ =>
    have e5 : [x4] = [Value.int .i64 k] := e5
    have e6 : [x5] = [Value.string (S key)] := e6
    have e7 : [x6] = [Value.int .i64 lb] := e7
    have e8 : [x7] = [Value.string (S val)] := e8
    cases e5; cases e6; cases e7; cases e8
    exact ⟨k, lb, key, val, rfl, i7, i9⟩
theorem okT_ch {H : Type} {enc : TypeId × Value → H} {w : World} {cs : List Value} (h : OkT enc Try.prog w 78 cs) : ∃ c : Ch, cs = Rep.cells c ∧ c.Ok := by
  obtain ⟨hl, hf⟩ := okT_struct Try.underlying78 h
  have hl : cs.length = 7 := hl
  obtain ⟨r, e1, i1, i2⟩ := okT_u8i (by kernel_rfl) (hf 0 _ rfl)
  obtain ⟨f, e2, i3, i4⟩ := okT_u8i (by kernel_rfl) (hf 1 _ rfl)
  obtain ⟨b, e3, _⟩ := okT_boolv (by kernel_rfl) (hf 2 _ rfl)
  obtain ⟨k, lb, key, val, e4, i5, i6⟩ := okT_ed (hf 3 _ rfl)
  match cs, hl with
  | [x1, x2, x3, x4, x5, x6, x7], _ =>
    have e1 : [x1] = [Value.int .u8 r] := e1
    have e2 : [x2] = [Value.int .u8 f] := e2
    have e3 : [x3] = [Value.bool b] := e3
    have e4 : [x4, x5, x6, x7] = [Value.int .i64 k, Value.string (S key), Value.int .i64 lb, Value.string (S val)] := e4
    cases e1; cases e2; cases e3; cases e4
    exact ⟨⟨r, f, b, ⟨k, key, lb, val⟩⟩, rfl, ⟨by omega, by omega⟩, ⟨by omega, by omega⟩, by show key.length ≤ _; omega, by show val.length ≤ _; omega⟩
theorem okT_chs {H : Type} {enc : TypeId × Value → H} {w : World} {cs : List Value} (h : OkT enc Try.prog w 35 cs) :
    ∃ v, ∃ l : List Ch, cs = [v] ∧ v.oneCell' = true ∧ Sl w v 7 l.length (cellsOf l) ∧ (∀ c ∈ l, c.Ok) ∧ l.length ≤ 140737488351232 := by
  obtain ⟨v, xs, h1, h2, h3, h4, h5⟩ := okT_list (α := Ch) Ch.Ok Try.underlying35 (by kernel_rfl) (fun ecs h => okT_ch h) h
  refine ⟨v, xs, h1, h2, h3, h4, ?_⟩
  have hb : Try.prog.bytesOf 78 = 56 := by kernel_rfl
  rw [hb] at h5
  simp [reachBytes] at h5
  omega
end Go.Proofs.Ytmjpdibjdgjhgaa
