/- Several texts, one behind the other; each says in its head what it proves. No condition. -/
import Derived.Test.YtmjpdibjdgjhgaaZelpbgfkl
import Derived.Test.YtmjpdibjdgjhgaaZfhkbfllp
import Derived.Test.YtmjpdibjdgjhgaaZnkgebaja
/- Events among the arguments. No condition. -/
namespace Go.Proofs.Ytmjpdibjdgjhgaa
open Go.ChangeShapes Go.WideShapes Go.ChangeAt Go.RowKit
set_option linter.unusedSimpArgs false
set_option linter.unusedVariables false
set_option maxRecDepth 20000
/-- A text. -/
theorem okT_txt {H : Type} {enc : TypeId × Value → H} {P : Program} {w : World} {t : TypeId} {cs : List Value} (hu : P.underlying t = some .string) (h : OkT enc P w t cs) : ∃ l : List UInt8, cs = [.string (S l)] ∧ l.length ≤ 140737488351232 := by
  obtain ⟨l, e, h⟩ := okT_string hu h
  exact ⟨l, e, by unfold reachBytes at h; omega⟩
/-- What is known of an event that came in. -/
structure Ev.Ok (e : Ev) : Prop where
  r : I64 e.r
  n : I64 e.n
  c : I64 e.c.a ∧ I64 e.c.b ∧ I64 e.c.c ∧ I64 e.c.d ∧ I64 e.c.e
  h : I64 e.h
  kind : I64 e.ed.kind
  label : I64 e.ed.label
  key : e.ed.key.length ≤ 140737488351232
  value : e.ed.value.length ≤ 140737488351232
theorem okT_ev {H : Type} {enc : TypeId × Value → H} {w : World} {cs : List Value} (h : OkT enc Try.prog w 32 cs) : ∃ e : Ev, cs = Rep.cells e ∧ e.Ok := by
  obtain ⟨hl, hf⟩ := okT_struct Try.underlying32 h
  have hl : cs.length = 12 := hl
  obtain ⟨r, e1, i1⟩ := okT_i64 (by kernel_rfl) (hf 0 _ rfl)
  obtain ⟨n, e2, i2⟩ := okT_i64 (by kernel_rfl) (hf 1 _ rfl)
  obtain ⟨xs, e3, i3, i4⟩ := okT_arrayL (α := Int) (e := 3) (n := 5) (fun n => I64 n) (by kernel_rfl) (by kernel_rfl) (by kernel_rfl) (fun ecs h => by obtain ⟨n, e, i⟩ := okT_i64 (by kernel_rfl) h; exact ⟨n, e, i⟩) (hf 2 _ rfl)
  obtain ⟨hh, e4, i5⟩ := okT_i64 (by kernel_rfl) (hf 3 _ rfl)
  obtain ⟨k, e5, i6⟩ := okT_i64 (by kernel_rfl) (hf 4 _ rfl)
  obtain ⟨key, e6, i7⟩ := okT_txt (by kernel_rfl) (hf 5 _ rfl)
  obtain ⟨lb, e7, i8⟩ := okT_i64 (by kernel_rfl) (hf 6 _ rfl)
  obtain ⟨val, e8, i9⟩ := okT_txt (by kernel_rfl) (hf 7 _ rfl)
  match cs, hl, xs, i3 with
  | [x0, x1, x2, x3, x4, x5, x6, x7, x8, x9, x10, x11], _, [c0, c1, c2, c3, c4], _ =>
    have e1 : [x0] = [Value.int .i64 r] := e1
    have e2 : [x1] = [Value.int .i64 n] := e2
    have e3 : [x2, x3, x4, x5, x6] = [Value.int .i64 c0, Value.int .i64 c1, Value.int .i64 c2, Value.int .i64 c3, Value.int .i64 c4] := e3
    have e4 : [x7] = [Value.int .i64 hh] := e4
    have e5 : [x8] = [Value.int .i64 k] := e5
    have e6 : [x9] = [Value.string (S key)] := e6
    have e7 : [x10] = [Value.int .i64 lb] := e7
    have e8 : [x11] = [Value.string (S val)] := e8
    cases e1; cases e2; cases e3; cases e4; cases e5; cases e6; cases e7; cases e8
    exact ⟨⟨r, n, ⟨c0, c1, c2, c3, c4⟩, hh, ⟨k, key, lb, val⟩⟩, rfl, i1, i2, ⟨i4 c0 (by simp), i4 c1 (by simp), i4 c2 (by simp), i4 c3 (by simp), i4 c4 (by simp)⟩, i5, i6, i8, i7, i9⟩
/-- A slice of events. -/
theorem okT_evs {H : Type} {enc : TypeId × Value → H} {w : World} {cs : List Value} (h : OkT enc Try.prog w 24 cs) :
    ∃ v, ∃ l : List Ev, cs = [v] ∧ v.oneCell' = true ∧ Sl w v 12 l.length (cellsOf l) ∧ (∀ e ∈ l, e.Ok) ∧ l.length ≤ 140737488351232 := by
  obtain ⟨v, xs, h1, h2, h3, h4, h5⟩ := okT_list (α := Ev) Ev.Ok Try.underlying24 (by kernel_rfl) (fun ecs h => okT_ev h) h
  refine ⟨v, xs, h1, h2, h3, h4, ?_⟩
  have hb : Try.prog.bytesOf 32 = 112 := by kernel_rfl
  rw [hb] at h5
  simp [reachBytes] at h5
  omega
end Go.Proofs.Ytmjpdibjdgjhgaa
/- More kinds of arguments. No condition. -/
namespace Go.Proofs.Ytmjpdibjdgjhgaa
open Go.ChangeShapes Go.WideShapes Go.ChangeAt Go.RowKit
set_option linter.unusedSimpArgs false
set_option linter.unusedVariables false
/-- Two bytes. -/
structure B2 where
  x : UInt8
  y : UInt8
instance : Rep B2 := ⟨2, fun b => [.int .u8 b.x.toNat, .int .u8 b.y.toNat], by decide, fun _ => rfl, fun _ => rfl⟩
section
variable {H : Type} {enc : TypeId × Value → H} {P : Program} {w : World} {t : TypeId} {cs : List Value}
theorem okT_b2s {e e2 : TypeId} (hu : P.underlying t = some (.slice e)) (hs : P.cellsOf e = 2) (hb : P.bytesOf e = 2) (ha : P.underlying e = some (.array 2 e2)) (h2 : P.underlying e2 = some (.int .u8)) (hs2 : P.cellsOf e2 = 1) (h : OkT enc P w t cs) :
    ∃ v, ∃ l : List B2, cs = [v] ∧ v.oneCell' = true ∧ Sl w v 2 l.length (cellsOf l) ∧ l.length ≤ 140737488355328 := by
  obtain ⟨v, xs, h1, h2, h3, h4, h5⟩ := okT_list (α := B2) (fun _ => True) hu (by rw [hs]; rfl) (fun ecs h => by
    obtain ⟨xs, e, hl, _⟩ := okT_arrayL (α := UInt8) (fun _ => True) ha (by rw [hs2]; rfl) (by rw [hs]; rfl) (fun ecs h => okT_u8 h2 h) h
    match xs, hl with
    | [a, b], _ => exact ⟨⟨a, b⟩, e, trivial⟩) h
  rw [hb] at h5
  exact ⟨v, xs, h1, h2, h3, by simp [reachBytes] at h5; omega⟩
theorem okT_bl (hu : P.underlying t = some .bool) (h : OkT enc P w t cs) : ∃ b : Bool, cs = Rep.cells b ∧ True := by
  obtain ⟨b, e⟩ := okT_bool hu h
  exact ⟨b, e, trivial⟩
theorem okT_bools {e : TypeId} (hu : P.underlying t = some (.slice e)) (hs : P.cellsOf e = 1) (hb : P.bytesOf e = 1) (he : P.underlying e = some .bool) (h : OkT enc P w t cs) :
    ∃ v, ∃ l : List Bool, cs = [v] ∧ v.oneCell' = true ∧ Sl w v 1 l.length (cellsOf l) ∧ l.length ≤ 140737488355328 := by
  obtain ⟨v, xs, h1, h2, h3, h4, h5⟩ := okT_list (α := Bool) (fun _ => True) hu (by rw [hs]; rfl) (fun ecs h => okT_bl he h) h
  rw [hb] at h5
  exact ⟨v, xs, h1, h2, h3, by simp [reachBytes] at h5; omega⟩
theorem okT_u16i (hu : P.underlying t = some (.int .u16)) (h : OkT enc P w t cs) : ∃ n : Int, cs = [.int .u16 n] ∧ 0 ≤ n ∧ n ≤ 65535 := by
  obtain ⟨n, e, h⟩ := okT_int hu h
  have := bounds_u16 h
  exact ⟨n, e, by omega, by omega⟩
theorem okT_u32i (hu : P.underlying t = some (.int .u32)) (h : OkT enc P w t cs) : ∃ n : Int, cs = [.int .u32 n] ∧ 0 ≤ n ∧ n ≤ 4294967295 := by
  obtain ⟨n, e, h⟩ := okT_int hu h
  have := bounds_u32 h
  exact ⟨n, e, by omega, by omega⟩
theorem okT_boolv (hu : P.underlying t = some .bool) (h : OkT enc P w t cs) : ∃ b : Bool, cs = [.bool b] ∧ True := by
  obtain ⟨b, e⟩ := okT_bool hu h
  exact ⟨b, e, trivial⟩
theorem okT_3u8 {e : TypeId} (hu : P.underlying t = some (.array 3 e)) (hc : P.cellsOf t = 3) (hu2 : P.underlying e = some (.int .u8)) (hc2 : P.cellsOf e = 1) (h : OkT enc P w t cs) : ∃ a b c : UInt8, cs = [.int .u8 a.toNat, .int .u8 b.toNat, .int .u8 c.toNat] := by
  obtain ⟨xs, e, hl, _⟩ := okT_arrayL (α := UInt8) (fun _ => True) hu (by rw [hc2]; rfl) (by rw [hc]; rfl) (fun ecs h => okT_u8 hu2 h) h
  match xs, hl with
  | [a, b, c], _ => exact ⟨a, b, c, e⟩
theorem okT_i64r (hu : P.underlying t = some (.int .i64)) (h : OkT enc P w t cs) : ∃ n : Int, cs = Rep.cells n ∧ I64 n := okT_i64 hu h
theorem okT_3int {e : TypeId} (hu : P.underlying t = some (.array 3 e)) (hc : P.cellsOf t = 3) (hu2 : P.underlying e = some (.int .i64)) (hc2 : P.cellsOf e = 1) (h : OkT enc P w t cs) : ∃ a b c : Int, cs = [.int .i64 a, .int .i64 b, .int .i64 c] ∧ I64 a ∧ I64 b ∧ I64 c := by
  obtain ⟨xs, e, hl, hg⟩ := okT_arrayL (α := Int) I64 hu (by rw [hc2]; rfl) (by rw [hc]; rfl) (fun ecs h => okT_i64r hu2 h) h
  match xs, hl with
  | [a, b, c], _ => exact ⟨a, b, c, e, hg a (by simp), hg b (by simp), hg c (by simp)⟩
end
end Go.Proofs.Ytmjpdibjdgjhgaa
/- Choices among the arguments. No condition. -/
namespace Go.Proofs.Ytmjpdibjdgjhgaa
open Go.ChangeShapes Go.WideShapes Go.ChangeAt Go.RowKit
set_option linter.unusedSimpArgs false
set_option linter.unusedVariables false
set_option maxRecDepth 20000
theorem okT_ed {H : Type} {enc : TypeId × Value → H} {w : World} {cs : List Value} (h : OkT enc Try.prog w 76 cs) : ∃ (k lb : Int) (key val : List UInt8), cs = [.int .i64 k, .string (S key), .int .i64 lb, .string (S val)] ∧ key.length ≤ 140737488351232 ∧ val.length ≤ 140737488351232 := by
  obtain ⟨hl, hf⟩ := okT_struct Try.underlying76 h
  have hl : cs.length = 4 := hl
  obtain ⟨k, e5, i6⟩ := okT_i64 (by kernel_rfl) (hf 0 _ rfl)
  obtain ⟨key, e6, i7⟩ := okT_txt (by kernel_rfl) (hf 1 _ rfl)
  obtain ⟨lb, e7, i8⟩ := okT_i64 (by kernel_rfl) (hf 2 _ rfl)
  obtain ⟨val, e8, i9⟩ := okT_txt (by kernel_rfl) (hf 3 _ rfl)
  match cs, hl with
  | [x4, x5, x6, x7], _ =>
    have e5 : [x4] = [Value.int .i64 k] := e5
    have e6 : [x5] = [Value.string (S key)] := e6
    have e7 : [x6] = [Value.int .i64 lb] := e7
    have e8 : [x7] = [Value.string (S val)] := e8
    cases e5; cases e6; cases e7; cases e8
    exact ⟨k, lb, key, val, rfl, i7, i9⟩
theorem okT_ch {H : Type} {enc : TypeId × Value → H} {w : World} {cs : List Value} (h : OkT enc Try.prog w 78 cs) : ∃ c : Ch, cs = Rep.cells c ∧ c.Ok := by
  obtain ⟨hl, hf⟩ := okT_struct Try.underlying78 h
  have hl : cs.length = 7 := hl
  obtain ⟨r, e1, i1, i2⟩ := okT_u8i (by kernel_rfl) (hf 0 _ rfl)
  obtain ⟨f, e2, i3, i4⟩ := okT_u8i (by kernel_rfl) (hf 1 _ rfl)
  obtain ⟨b, e3, _⟩ := okT_boolv (by kernel_rfl) (hf 2 _ rfl)
  obtain ⟨k, lb, key, val, e4, i5, i6⟩ := okT_ed (hf 3 _ rfl)
  match cs, hl with
  | [x1, x2, x3, x4, x5, x6, x7], _ =>
    have e1 : [x1] = [Value.int .u8 r] := e1
    have e2 : [x2] = [Value.int .u8 f] := e2
    have e3 : [x3] = [Value.bool b] := e3
    have e4 : [x4, x5, x6, x7] = [Value.int .i64 k, Value.string (S key), Value.int .i64 lb, Value.string (S val)] := e4
    cases e1; cases e2; cases e3; cases e4
    exact ⟨⟨r, f, b, ⟨k, key, lb, val⟩⟩, rfl, ⟨by omega, by omega⟩, ⟨by omega, by omega⟩, by show key.length ≤ _; omega, by show val.length ≤ _; omega⟩
theorem okT_chs {H : Type} {enc : TypeId × Value → H} {w : World} {cs : List Value} (h : OkT enc Try.prog w 35 cs) :
    ∃ v, ∃ l : List Ch, cs = [v] ∧ v.oneCell' = true ∧ Sl w v 7 l.length (cellsOf l) ∧ (∀ c ∈ l, c.Ok) ∧ l.length ≤ 140737488351232 := by
  obtain ⟨v, xs, h1, h2, h3, h4, h5⟩ := okT_list (α := Ch) Ch.Ok Try.underlying35 (by kernel_rfl) (fun ecs h => okT_ch h) h
  refine ⟨v, xs, h1, h2, h3, h4, ?_⟩
  have hb : Try.prog.bytesOf 78 = 56 := by kernel_rfl
  rw [hb] at h5
  simp [reachBytes] at h5
  omega
end Go.Proofs.Ytmjpdibjdgjhgaa
/- Pairs of bytes among the arguments. No condition. -/
namespace Go.Proofs.Ytmjpdibjdgjhgaa
open Go.ChangeShapes Go.WideShapes Go.ChangeAt Go.RowKit
theorem okT_2u8 {H : Type} {enc : TypeId × Value → H} {P : Program} {w : World} {t e : TypeId} {cs : List Value} (hu : P.underlying t = some (.array 2 e)) (hc : P.cellsOf t = 2) (hu2 : P.underlying e = some (.int .u8)) (hc2 : P.cellsOf e = 1) (h : OkT enc P w t cs) : ∃ a b : Int, cs = [.int .u8 a, .int .u8 b] ∧ (0 ≤ a ∧ a ≤ 255) ∧ (0 ≤ b ∧ b ≤ 255) := by
  obtain ⟨hl, h1⟩ := okT_array hu h
  rw [hc] at hl
  rw [hc2] at h1
  obtain ⟨a, e1, i1⟩ := okT_u8i hu2 (h1 0 (by omega))
  obtain ⟨b, e2, i2⟩ := okT_u8i hu2 (h1 1 (by omega))
  match cs, hl with
  | [x, y], _ =>
    simp at e1 e2
    subst e1; subst e2
    exact ⟨a, b, rfl, i1, i2⟩
end Go.Proofs.Ytmjpdibjdgjhgaa
