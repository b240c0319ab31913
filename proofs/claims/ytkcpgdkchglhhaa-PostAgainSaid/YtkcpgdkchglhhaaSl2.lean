/- append onto a fresh slice without elements. No condition. -/
import Derived.Test.YtkcpgdkchglhhaaSl
namespace Go.Proofs.Ytkcpgdkchglhhaa
open Go.RowKit
set_option linter.unusedSimpArgs false
set_option linter.unusedVariables false
/-- The slice value v is one of the call's own (blocks from 'base' on), or has nothing; its cells are cs. -/
def Own (w : World) (base : Nat) (e : TypeId) (n : Nat) (v : Value) (k : Nat) (cs : List Value) : Prop :=
  cs.length = k * n ∧ ((k = 0 ∧ ∃ b, v = .slice b 0 0) ∨
    ∃ g cap cur, v = .slice (some ⟨g, 0, none⟩) k cap ∧ base ≤ g ∧ w.heap[g]? = some (.cells cur e (0, 0)) ∧ k ≤ cap ∧ cap ≤ maxLen ∧ cur.size = cap * n ∧ cur.toList.take (k * n) = cs)
theorem Own.sl {w : World} {base : Nat} {e : TypeId} {n : Nat} {v : Value} {k : Nat} {cs : List Value} (h : Own w base e n v k cs) : Sl w v n k cs := by
  refine ⟨h.1, ?_⟩
  rcases h.2 with ⟨rfl, b, rfl⟩ | ⟨g, cap, cur, rfl, hb, hg, hk, hc, hs, ht⟩
  · have : cs = [] := List.eq_nil_of_length_eq_zero (by simpa using h.1)
    subst this
    exact ⟨b, 0, rfl, Nat.le_refl _, Nat.zero_le _, fun _ => rfl, fun ad _ j u hu => by simp at hu⟩
  · exact (Sl.of_own (w := w) (base := base) (e := e) ⟨h.1, .inr ⟨g, cap, cur, rfl, hb, hg, hk, hc, hs, ht⟩⟩).2
theorem run_append_fresh {P : Program} (w : World) (t ty e : TypeId) (i : TypeInfo) (z : Value) (size bytes : Nat) (ht : P.underlying t = some (.slice e)) (hi : P.info? e = some i) (hz : i.zero = some z)
    (hsize : i.size = size) (hby : i.bytes = bytes) (hzs : z.cells.size = size) (hsz : 0 < size) (b : Option Addr) (v : Value) (m : Nat) (news : List Value) (hsl : Sl w v size m news) (hb : m * bytes ≤ 140737488355328) :
    ∃ v' x, (Builtin.append_ #[t, t] ty #[.slice b 0 0, v]).run P w = .ok v' (w.ext x) ∧ Own (w.ext x) w.heap.size e size v' m news := by
  obtain ⟨hl, a, cap, rfl, hmc, hcm, han, hcell⟩ := hsl
  subst hsize
  subst hby
  have hm63 : m ≤ 9223372036854775807 := by unfold maxLen at hcm; omega
  by_cases hm : m = 0
  · subst hm
    have hn : news = [] := List.eq_nil_of_length_eq_zero (by simpa using hl)
    subst hn
    obtain ⟨x, hx⟩ := Kp.later (Kp.refl w)
    refine ⟨.slice b 0 0, x, ?_, by simp, .inl ⟨rfl, b, rfl⟩⟩
    rw [← hx]
    cases b with
    | none => cases a <;> simp [Builtin.append_, run_underlying ht, sizeOf, typeInfo, hi, Builtin.lenOf, Builtin.firstCells, loadCells, loadCellsFrom]
    | some ba => cases a <;> simp [Builtin.append_, run_underlying ht, sizeOf, typeInfo, hi, Builtin.lenOf, Builtin.firstCells, loadCells, loadCellsFrom, storeCells]
  · cases a with
    | none => exact absurd (han rfl) (by omega)
    | some ad =>
      have hge := grownCap_ge w m 0 e
      have hcm' : grownCap w m 0 e ≤ maxLen := grownCap_le_maxLen w m 0 e (by unfold maxLen; omega)
      have fin : ∀ v', v' = Value.slice (some ⟨w.heap.size, 0, none⟩) m (grownCap w m 0 e) → ∀ w', w' = w.drew.alloc (.cells (news.toArray ++ Builtin.zeroCells z.cells (grownCap w m 0 e - m)) e) →
          (Builtin.append_ #[t, t] ty #[.slice b 0 0, .slice (some ad) m cap]).run P w = .ok v' w' →
          ∃ v' x, (Builtin.append_ #[t, t] ty #[.slice b 0 0, .slice (some ad) m cap]).run P w = .ok v' (w.ext x) ∧ Own (w.ext x) w.heap.size e i.size v' m news := by
        intro v' hv w' hw hr
        obtain ⟨x, hx⟩ := Kp.later (show Kp w w' by rw [hw]; exact Kp.alloc (Kp.drew (Kp.refl w)) _)
        refine ⟨v', x, by rw [← hx]; exact hr, hl, .inr ⟨w.heap.size, grownCap w m 0 e, _, hv, Nat.le_refl _, by rw [← hx, hw]; exact heap_alloc_new w.drew _, hge, hcm', ?_, ?_⟩⟩
        · simp only [Array.size_append, List.size_toArray, size_zeroCells, hzs, hl, ← Nat.add_mul]
          congr 1
          omega
        · simp only [Array.toList_append]
          rw [← hl]
          exact List.take_left
      cases b with
      | none => exact fin _ rfl _ rfl (run_append_nil w t ty e i z ht hi hz ad m cap news hl (hcell ad rfl) (by omega) (by omega) (by omega))
      | some ba =>
        refine fin _ rfl _ rfl ?_
        have := run_append_grow (P := P) w t ty e i z ht hi hz ba 0 0 [] (by simp) (by simp) ad m cap news hl (hcell ad rfl) (by omega) (by omega) (growslice_fits (by omega) (by simpa using hb))
        simpa using this
theorem wpList_append_fresh {P : Program} {ops : Array Oper} {rest : List Oper} {o : Oper} {a : Act} {w : World} {Q : Exit → Act → World → Prop} (hgd : o.guard = none) (s x : Operand) (t : TypeId)
    (ho : o.op = .call { callee := .builtin .append, args := #[s, x], argTypes := #[t, t] })
    (e : TypeId) (i : TypeInfo) (z : Value) (size bytes : Nat) (ht : P.underlying t = some (.slice e)) (hi : P.info? e = some i) (hz : i.zero = some z)
    (hsize : i.size = size) (hby : i.bytes = bytes) (hzs : z.cells.size = size) (hsz : 0 < size) (b : Option Addr) (v : Value) (m : Nat) (news : List Value)
    (hs : a.eval s = .slice b 0 0) (hx : a.eval x = v) (hsl : Sl w v size m news) (hb : m * bytes ≤ 140737488355328)
    (h : ∀ v' x', Own (w.ext x') w.heap.size e size v' m news → wpList P ops Q rest (a.put o.dst v') (w.ext x')) : wpList P ops Q (o :: rest) a w := by
  obtain ⟨v', x', hr, hown⟩ := run_append_fresh (P := P) w t o.type e i z size bytes ht hi hz hsize hby hzs hsz b v m news hsl hb
  refine wpList_plain hgd fun K hK => ?_
  unfold Oper.wp execOp
  simp only [ho, resolve, invoke, builtin, Sem.run_bind, Sem.run_pure, Result.andThen_ok, List.map_toArray, List.map_cons, List.map_nil, hs, hx, hr]
  exact hK _ _ (h v' x' hown)
end Go.Proofs.Ytkcpgdkchglhhaa
