/- Several texts, one behind the other; each says in its head what it proves. No condition. -/
import Derived.Test.YtkcpgdkchglhhaaZldjckhlk
import Derived.Test.YtkcpgdkchglhhaaZfgeehngk
import Derived.Test.YtkcpgdkchglhhaaZpdemmjlf
import Derived.Test.YtkcpgdkchglhhaaZobjdebjo
/- Configs among the arguments. No condition. -/
namespace Go.Proofs.Ytkcpgdkchglhhaa
open Go.ChangeShapes Go.WideShapes Go.ChangeAt Go.RowKit
set_option linter.unusedSimpArgs false
set_option linter.unusedVariables false
set_option maxRecDepth 20000
def Cfg.I (c : Cfg) : Prop := I64 c.n ∧ I64 c.w ∧ I64 c.q ∧ I64 c.h ∧ I64 c.l ∧ I64 c.p
theorem okT_cfg {H : Type} {enc : TypeId × Value → H} {w : World} {cs : List Value} (h : OkT enc Try.prog w 23 cs) : ∃ c : Cfg, cs = Rep.cells c ∧ c.I := by
  obtain ⟨hl, hf⟩ := okT_struct Try.underlying23 h
  have hl : cs.length = 6 := hl
  obtain ⟨a, e1, i1⟩ := okT_i64 (by kernel_rfl) (hf 0 _ rfl)
  obtain ⟨b, e2, i2⟩ := okT_i64 (by kernel_rfl) (hf 1 _ rfl)
  obtain ⟨c, e3, i3⟩ := okT_i64 (by kernel_rfl) (hf 2 _ rfl)
  obtain ⟨d, e4, i4⟩ := okT_i64 (by kernel_rfl) (hf 3 _ rfl)
  obtain ⟨e, e5, i5⟩ := okT_i64 (by kernel_rfl) (hf 4 _ rfl)
  obtain ⟨f, e6, i6⟩ := okT_i64 (by kernel_rfl) (hf 5 _ rfl)
  match cs, hl with
  | [x1, x2, x3, x4, x5, x6], _ =>
    have e1 : [x1] = [Value.int .i64 a] := e1
    have e2 : [x2] = [Value.int .i64 b] := e2
    have e3 : [x3] = [Value.int .i64 c] := e3
    have e4 : [x4] = [Value.int .i64 d] := e4
    have e5 : [x5] = [Value.int .i64 e] := e5
    have e6 : [x6] = [Value.int .i64 f] := e6
    cases e1; cases e2; cases e3; cases e4; cases e5; cases e6
    exact ⟨⟨a, b, c, d, e, f⟩, rfl, i1, i2, i3, i4, i5, i6⟩
end Go.Proofs.Ytkcpgdkchglhhaa
/- Events among the arguments. No condition. -/
namespace Go.Proofs.Ytkcpgdkchglhhaa
open Go.ChangeShapes Go.WideShapes Go.ChangeAt Go.RowKit
set_option linter.unusedSimpArgs false
set_option linter.unusedVariables false
set_option maxRecDepth 20000
/-- A text. -/
theorem okT_txt {H : Type} {enc : TypeId × Value → H} {P : Program} {w : World} {t : TypeId} {cs : List Value} (hu : P.underlying t = some .string) (h : OkT enc P w t cs) : ∃ l : List UInt8, cs = [.string (S l)] ∧ l.length ≤ 140737488351232 := by
  obtain ⟨l, e, h⟩ := okT_string hu h
  exact ⟨l, e, by unfold reachBytes at h; omega⟩
/-- What is known of an event that came in. -/
structure Ev.Ok (e : Ev) : Prop where
  r : I64 e.r
  n : I64 e.n
  c : I64 e.c.a ∧ I64 e.c.b ∧ I64 e.c.c ∧ I64 e.c.d ∧ I64 e.c.e
  h : I64 e.h
  kind : I64 e.ed.kind
  label : I64 e.ed.label
  key : e.ed.key.length ≤ 140737488351232
  value : e.ed.value.length ≤ 140737488351232
theorem okT_ev {H : Type} {enc : TypeId × Value → H} {w : World} {cs : List Value} (h : OkT enc Try.prog w 55 cs) : ∃ e : Ev, cs = Rep.cells e ∧ e.Ok := by
  obtain ⟨hl, hf⟩ := okT_struct Try.underlying55 h
  have hl : cs.length = 12 := hl
  obtain ⟨r, e1, i1⟩ := okT_i64 (by kernel_rfl) (hf 0 _ rfl)
  obtain ⟨n, e2, i2⟩ := okT_i64 (by kernel_rfl) (hf 1 _ rfl)
  obtain ⟨xs, e3, i3, i4⟩ := okT_arrayL (α := Int) (e := 3) (n := 5) (fun n => I64 n) (by kernel_rfl) (by kernel_rfl) (by kernel_rfl) (fun ecs h => by obtain ⟨n, e, i⟩ := okT_i64 (by kernel_rfl) h; exact ⟨n, e, i⟩) (hf 2 _ rfl)
  obtain ⟨hh, e4, i5⟩ := okT_i64 (by kernel_rfl) (hf 3 _ rfl)
  obtain ⟨k, e5, i6⟩ := okT_i64 (by kernel_rfl) (hf 4 _ rfl)
  obtain ⟨key, e6, i7⟩ := okT_txt (by kernel_rfl) (hf 5 _ rfl)
  obtain ⟨lb, e7, i8⟩ := okT_i64 (by kernel_rfl) (hf 6 _ rfl)
  obtain ⟨val, e8, i9⟩ := okT_txt (by kernel_rfl) (hf 7 _ rfl)
  match cs, hl, xs, i3 with
  | [x0, x1, x2, x3, x4, x5, x6, x7, x8, x9, x10, x11], _, [c0, c1, c2, c3, c4], _ =>
    have e1 : [x0] = [Value.int .i64 r] := e1
    have e2 : [x1] = [Value.int .i64 n] := e2
    have e3 : [x2, x3, x4, x5, x6] = [Value.int .i64 c0, Value.int .i64 c1, Value.int .i64 c2, Value.int .i64 c3, Value.int .i64 c4] := e3
    have e4 : [x7] = [Value.int .i64 hh] := e4
    have e5 : [x8] = [Value.int .i64 k] := e5
    have e6 : [x9] = [Value.string (S key)] := e6
    have e7 : [x10] = [Value.int .i64 lb] := e7
    have e8 : [x11] = [Value.string (S val)] := e8
    cases e1; cases e2; cases e3; cases e4; cases e5; cases e6; cases e7; cases e8
    exact ⟨⟨r, n, ⟨c0, c1, c2, c3, c4⟩, hh, ⟨k, key, lb, val⟩⟩, rfl, i1, i2, ⟨i4 c0 (by simp), i4 c1 (by simp), i4 c2 (by simp), i4 c3 (by simp), i4 c4 (by simp)⟩, i5, i6, i8, i7, i9⟩
/-- A slice of events. -/
theorem okT_evs {H : Type} {enc : TypeId × Value → H} {w : World} {cs : List Value} (h : OkT enc Try.prog w 34 cs) :
    ∃ v, ∃ l : List Ev, cs = [v] ∧ v.oneCell' = true ∧ Sl w v 12 l.length (cellsOf l) ∧ (∀ e ∈ l, e.Ok) ∧ l.length ≤ 140737488351232 := by
  obtain ⟨v, xs, h1, h2, h3, h4, h5⟩ := okT_list (α := Ev) Ev.Ok Try.underlying34 (by kernel_rfl) (fun ecs h => okT_ev h) h
  refine ⟨v, xs, h1, h2, h3, h4, ?_⟩
  have hb : Try.prog.bytesOf 55 = 112 := by kernel_rfl
  rw [hb] at h5
  simp [reachBytes] at h5
  omega
end Go.Proofs.Ytkcpgdkchglhhaa
/- The calls of layer 16, read. No condition. -/
namespace Go.Proofs.Ytkcpgdkchglhhaa
open Go.ChangeShapes Go.WideShapes Go.ChangeAt Go.RowKit
set_option linter.unusedSimpArgs false
set_option linter.unusedVariables false
set_option maxRecDepth 20000
theorem okT_clk {H : Type} {enc : TypeId × Value → H} {P : Program} {w : World} {t e : TypeId} {cs : List Value} (hu : P.underlying t = some (.array 5 e)) (hc : P.cellsOf t = 5) (hu2 : P.underlying e = some (.int .i64)) (hc2 : P.cellsOf e = 1) (h : OkT enc P w t cs) : ∃ c : Clk, cs = Rep.cells c ∧ c.I := by
  obtain ⟨xs, e, hl, hg⟩ := okT_arrayL (α := Int) I64 hu (by rw [hc2]; rfl) (by rw [hc]; rfl) (fun ecs h => okT_i64 hu2 h) h
  match xs, hl with
  | [a, b, c, d, f], _ => exact ⟨⟨a, b, c, d, f⟩, e, fun i hi => by
      match i, hi with
      | 0, _ => exact hg a (by simp)
      | 1, _ => exact hg b (by simp)
      | 2, _ => exact hg c (by simp)
      | 3, _ => exact hg d (by simp)
      | 4, _ => exact hg f (by simp)⟩
theorem okT_op16 {H : Type} {enc : TypeId × Value → H} {w : World} {cs : List Value} (h : OkT enc Try.prog w 36 cs) : ∃ o : Op16, cs = Rep.cells o ∧ o.Ok [Base w] := by
  obtain ⟨hl, hf⟩ := okT_struct Try.underlying36 h
  have hl : cs.length = 10 := hl
  obtain ⟨a, e1, i1, i2⟩ := okT_u8i (by kernel_rfl) (hf 0 _ rfl)
  obtain ⟨b, e2, i3, i4⟩ := okT_u8i (by kernel_rfl) (hf 1 _ rfl)
  obtain ⟨c, e3, i5, i6⟩ := okT_u8i (by kernel_rfl) (hf 2 _ rfl)
  obtain ⟨r, e4, i7⟩ := okT_i64 (by kernel_rfl) (hf 3 _ rfl)
  obtain ⟨k, e5, i8⟩ := okT_clk (e := 3) (by kernel_rfl) (by kernel_rfl) (by kernel_rfl) (by kernel_rfl) (hf 4 _ rfl)
  obtain ⟨v, l, e6, o, s, ev, bd⟩ := okT_evs (hf 5 _ rfl)
  match cs, hl with
  | [x0, x1, x2, x3, x4, x5, x6, x7, x8, x9], _ =>
    have e1 : [x0] = [Value.int .u8 a] := e1
    have e2 : [x1] = [Value.int .u8 b] := e2
    have e3 : [x2] = [Value.int .u8 c] := e3
    have e4 : [x3] = [Value.int .i64 r] := e4
    have e5 : [x4, x5, x6, x7, x8] = [Value.int .i64 k.a, Value.int .i64 k.b, Value.int .i64 k.c, Value.int .i64 k.d, Value.int .i64 k.e] := e5
    have e6 : [x9] = [v] := e6
    cases e1; cases e2; cases e3; cases e4; cases e5; cases e6
    exact ⟨⟨a, b, c, r, k, v, o, l⟩, rfl, ⟨i1, i2⟩, ⟨i3, i4⟩, ⟨i5, i6⟩, i7, i8, RdT.base 0 rfl s, fun e he => (ev e he).n⟩
theorem okT_ops16 {H : Type} {enc : TypeId × Value → H} {w : World} {cs : List Value} (h : OkT enc Try.prog w 24 cs) :
    ∃ v, ∃ l : List Op16, cs = [v] ∧ v.oneCell' = true ∧ Sl w v 10 l.length (cellsOf l) ∧ (∀ o ∈ l, o.Ok [Base w]) ∧ l.length ≤ 140737488351232 := by
  obtain ⟨v, xs, h1, h2, h3, h4, h5⟩ := okT_list (α := Op16) (fun o => o.Ok [Base w]) Try.underlying24 (by kernel_rfl) (fun ecs h => okT_op16 h) h
  refine ⟨v, xs, h1, h2, h3, h4, ?_⟩
  have hb : Try.prog.bytesOf 36 = 80 := by kernel_rfl
  rw [hb] at h5
  simp [reachBytes] at h5
  omega
end Go.Proofs.Ytkcpgdkchglhhaa
