/- Configs, edits, contacts among the arguments. No condition. -/
import Derived.Test.YtekbhnlgoekhkaaSepG
import Derived.Test.YtekbhnlgoekhkaaLaw11
namespace Go.Proofs.Ytekbhnlgoekhkaa
open Go.ChangeShapes Go.WideShapes Go.ChangeAt Go.RowKit
set_option linter.unusedSimpArgs false
set_option linter.unusedVariables false
set_option maxRecDepth 20000
theorem okT_txt11 {H : Type} {enc : TypeId × Value → H} {P : Program} {w : World} {t : TypeId} {cs : List Value} (hu : P.underlying t = some .string) (h : OkT enc P w t cs) : ∃ l : List UInt8, cs = [.string (S l)] ∧ l.length ≤ 140737488351232 := by
  obtain ⟨l, e, h⟩ := okT_string hu h
  exact ⟨l, e, by unfold reachBytes at h; omega⟩
/-- A slice of texts. -/
theorem okT_txts {H : Type} {enc : TypeId × Value → H} {w : World} {cs : List Value} (h : OkT enc Try.prog w 42 cs) :
    ∃ v, ∃ l : List Txt, cs = [v] ∧ v.oneCell' = true ∧ Sl w v 1 l.length (cellsOf l) ∧ l.length ≤ 140737488351232 := by
  obtain ⟨v, xs, h1, h2, h3, h4, h5⟩ := okT_list (α := Txt) (e := 9) (fun _ => True) (by kernel_rfl) (by kernel_rfl) (fun ecs h => by obtain ⟨l, e, _⟩ := okT_txt11 (by kernel_rfl) h; exact ⟨⟨l⟩, e, trivial⟩) h
  refine ⟨v, xs, h1, h2, h3, ?_⟩
  have hb : Try.prog.bytesOf 9 = 16 := by kernel_rfl
  rw [hb] at h5
  simp [reachBytes] at h5
  omega
structure Ct.OkA (w : World) (c : Ct) : Prop where
  s0 : Sl w c.v0 1 c.s0.length (cellsOf c.s0)
  s1 : Sl w c.v1 1 c.s1.length (cellsOf c.s1)
  l0 : c.s0.length ≤ 140737488351232
  l1 : c.s1.length ≤ 140737488351232
  key : c.key.length ≤ 140737488351232
theorem okT_ct {H : Type} {enc : TypeId × Value → H} {w : World} {cs : List Value} (h : OkT enc Try.prog w 45 cs) : ∃ c : Ct, cs = Rep.cells c ∧ c.OkA w := by
  obtain ⟨hl, hf⟩ := okT_struct Try.underlying45 h
  have hl : cs.length = 7 := hl
  obtain ⟨key, e0, i0⟩ := okT_txt11 (by kernel_rfl) (hf 0 _ rfl)
  obtain ⟨_, a1⟩ := okT_array (n := 2) (e := 4) (by kernel_rfl) (hf 1 _ rfl)
  obtain ⟨_, a2⟩ := okT_array (n := 2) (e := 9) (by kernel_rfl) (hf 2 _ rfl)
  obtain ⟨_, a3⟩ := okT_array (n := 2) (e := 42) (by kernel_rfl) (hf 3 _ rfl)
  obtain ⟨b0, e1⟩ := okT_bool (by kernel_rfl) (a1 0 (by omega))
  obtain ⟨b1, e2⟩ := okT_bool (by kernel_rfl) (a1 1 (by omega))
  obtain ⟨f0, e3, _⟩ := okT_txt11 (by kernel_rfl) (a2 0 (by omega))
  obtain ⟨f1, e4, _⟩ := okT_txt11 (by kernel_rfl) (a2 1 (by omega))
  obtain ⟨v0, s0, e5, o0, r0, m0⟩ := okT_txts (a3 0 (by omega))
  obtain ⟨v1, s1, e6, o1, r1, m1⟩ := okT_txts (a3 1 (by omega))
  match cs, hl with
  | [x0, x1, x2, x3, x4, x5, x6], _ =>
    have e0 : [x0] = [Value.string (S key)] := e0
    have e1 : [x1] = [Value.bool b0] := e1
    have e2 : [x2] = [Value.bool b1] := e2
    have e3 : [x3] = [Value.string (S f0)] := e3
    have e4 : [x4] = [Value.string (S f1)] := e4
    have e5 : [x5] = [v0] := e5
    have e6 : [x6] = [v1] := e6
    cases e0; cases e1; cases e2; cases e3; cases e4; cases e5; cases e6
    exact ⟨⟨key, b0, b1, f0, f1, _, o0, s0, _, o1, s1⟩, rfl, ⟨r0, r1, m0, m1, i0⟩⟩
theorem okT_cts {H : Type} {enc : TypeId × Value → H} {w : World} {cs : List Value} (h : OkT enc Try.prog w 24 cs) :
    ∃ v, ∃ l : List Ct, cs = [v] ∧ v.oneCell' = true ∧ Sl w v 7 l.length (cellsOf l) ∧ (∀ e ∈ l, e.OkA w) ∧ l.length ≤ 140737488351232 := by
  obtain ⟨v, xs, h1, h2, h3, h4, h5⟩ := okT_list (α := Ct) (Ct.OkA w) Try.underlying24 (by kernel_rfl) (fun ecs h => okT_ct h) h
  refine ⟨v, xs, h1, h2, h3, h4, ?_⟩
  have hb : Try.prog.bytesOf 45 = 104 := by kernel_rfl
  rw [hb] at h5
  simp [reachBytes] at h5
  omega
theorem Ct.OkA.ok {W : World} {c : Ct} (h : c.OkA W) : c.Ok W := ⟨⟨RdT.base 0 rfl h.s0, RdT.base 0 rfl h.s1⟩, by have := h.l0; omega, by have := h.l1; omega⟩
def Cfg.I (c : Cfg) : Prop := I64 c.n ∧ I64 c.w ∧ I64 c.q ∧ I64 c.h ∧ I64 c.l ∧ I64 c.p
theorem okT_cfg {H : Type} {enc : TypeId × Value → H} {w : World} {cs : List Value} (h : OkT enc Try.prog w 23 cs) : ∃ c : Cfg, cs = Rep.cells c ∧ c.I := by
  obtain ⟨hl, hf⟩ := okT_struct Try.underlying23 h
  have hl : cs.length = 6 := hl
  obtain ⟨a, e1, i1⟩ := okT_i64 (by kernel_rfl) (hf 0 _ rfl)
  obtain ⟨b, e2, i2⟩ := okT_i64 (by kernel_rfl) (hf 1 _ rfl)
  obtain ⟨c, e3, i3⟩ := okT_i64 (by kernel_rfl) (hf 2 _ rfl)
  obtain ⟨d, e4, i4⟩ := okT_i64 (by kernel_rfl) (hf 3 _ rfl)
  obtain ⟨e, e5, i5⟩ := okT_i64 (by kernel_rfl) (hf 4 _ rfl)
  obtain ⟨f, e6, i6⟩ := okT_i64 (by kernel_rfl) (hf 5 _ rfl)
  match cs, hl with
  | [x1, x2, x3, x4, x5, x6], _ =>
    have e1 : [x1] = [Value.int .i64 a] := e1
    have e2 : [x2] = [Value.int .i64 b] := e2
    have e3 : [x3] = [Value.int .i64 c] := e3
    have e4 : [x4] = [Value.int .i64 d] := e4
    have e5 : [x5] = [Value.int .i64 e] := e5
    have e6 : [x6] = [Value.int .i64 f] := e6
    cases e1; cases e2; cases e3; cases e4; cases e5; cases e6
    exact ⟨⟨a, b, c, d, e, f⟩, rfl, i1, i2, i3, i4, i5, i6⟩
theorem okT_edit {H : Type} {enc : TypeId × Value → H} {w : World} {cs : List Value} (h : OkT enc Try.prog w 26 cs) : ∃ e : Ed, cs = Rep.cells e ∧ I64 e.kind ∧ I64 e.label ∧ e.key.length ≤ 140737488351232 ∧ e.value.length ≤ 140737488351232 := by
  obtain ⟨hl, hf⟩ := okT_struct Try.underlying26 h
  have hl : cs.length = 4 := hl
  obtain ⟨a, e1, i1⟩ := okT_i64 (by kernel_rfl) (hf 0 _ rfl)
  obtain ⟨b, e2, i2⟩ := okT_txt11 (by kernel_rfl) (hf 1 _ rfl)
  obtain ⟨c, e3, i3⟩ := okT_i64 (by kernel_rfl) (hf 2 _ rfl)
  obtain ⟨d, e4, i4⟩ := okT_txt11 (by kernel_rfl) (hf 3 _ rfl)
  match cs, hl with
  | [x1, x2, x3, x4], _ =>
    have e1 : [x1] = [Value.int .i64 a] := e1
    have e2 : [x2] = [Value.string (S b)] := e2
    have e3 : [x3] = [Value.int .i64 c] := e3
    have e4 : [x4] = [Value.string (S d)] := e4
    cases e1; cases e2; cases e3; cases e4
    exact ⟨⟨a, b, c, d⟩, rfl, i1, i3, i2, i4⟩
end Go.Proofs.Ytekbhnlgoekhkaa
