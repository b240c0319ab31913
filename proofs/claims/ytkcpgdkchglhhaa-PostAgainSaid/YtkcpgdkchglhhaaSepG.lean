/- The arguments of a law, read. No condition. -/
import Derived.Test.YtkcpgdkchglhhaaSepT
import Derived.Test.YtkcpgdkchglhhaaOpen
namespace Go.Proofs.Ytkcpgdkchglhhaa
open Go.ChangeShapes Go.WideShapes Go.ChangeAt Go.RowKit
set_option linter.unusedSimpArgs false
set_option linter.unusedVariables false
/-- The cells read as something of type t, and what is read is not longer than may be. -/
def OkT {H : Type} (enc : TypeId × Value → H) (P : Program) (w : World) (t : TypeId) (cs : List Value) : Prop :=
  ∃ fuel d ps, DataW.trod enc P w 0 (fun _ => true) true fuel t cs = some (d, ps) ∧ (d.weights P t).all (· ≤ reachBytes) = true
section
variable {H : Type} {enc : TypeId × Value → H} {P : Program} {w : World} {t : TypeId} {cs : List Value}
theorem okT_int {k : IntKind} (hu : P.underlying t = some (.int k)) (h : OkT enc P w t cs) : ∃ n, cs = [.int k n] ∧ (Lit.int k n).wf = true := by
  obtain ⟨fuel, d, ps, ht, _⟩ := h
  obtain ⟨n, h1, _, h3⟩ := DataW.trod_int hu ht
  exact ⟨n, h1, h3⟩
theorem okT_bool (hu : P.underlying t = some .bool) (h : OkT enc P w t cs) : ∃ b, cs = [.bool b] := by
  obtain ⟨fuel, d, ps, ht, _⟩ := h
  obtain ⟨n, h1, _⟩ := DataW.trod_bool hu ht
  exact ⟨n, h1⟩
theorem okT_string (hu : P.underlying t = some .string) (h : OkT enc P w t cs) : ∃ l : List UInt8, cs = [.string (S l)] ∧ l.length ≤ reachBytes := by
  obtain ⟨fuel, d, ps, ht, hw⟩ := h
  obtain ⟨s, h1, h2, _⟩ := DataW.trod_string hu ht
  simp only [Prod.mk.injEq] at h2
  obtain ⟨rfl, _⟩ := h2
  refine ⟨s.data.toList, by rw [h1, ← S_of], ?_⟩
  simpa [DataW.weights] using hw
theorem weightsEach_mem : ∀ {ts : List TypeId} {ds : List (DataW H)} {i : Nat} {t : TypeId} {d : DataW H}, (DataW.weightsEach P ts ds).all (· ≤ reachBytes) = true → ts[i]? = some t → ds[i]? = some d → (d.weights P t).all (· ≤ reachBytes) = true
  | [], _, _, _, _, _, h, _ => by simp at h
  | _ :: _, [], _, _, _, _, _, h => by simp at h
  | t :: ts, d :: ds, 0, _, _, hw, h1, h2 => by
    simp at h1 h2
    subst h1; subst h2
    rw [DataW.weightsEach, List.all_append, Bool.and_eq_true] at hw
    exact hw.1
  | t :: ts, d :: ds, i + 1, _, _, hw, h1, h2 => by
    rw [DataW.weightsEach, List.all_append, Bool.and_eq_true] at hw
    exact weightsEach_mem hw.2 (by simpa using h1) (by simpa using h2)
theorem weightsAll_mem {e : TypeId} : ∀ {ds : List (DataW H)} {d : DataW H}, (DataW.weightsAll P e ds).all (· ≤ reachBytes) = true → d ∈ ds → (d.weights P e).all (· ≤ reachBytes) = true
  | [], _, _, h => by cases h
  | d :: ds, _, hw, h => by
    rw [DataW.weightsAll, List.all_append, Bool.and_eq_true] at hw
    rcases List.mem_cons.1 h with e | e
    · subst e; exact hw.1
    · exact weightsAll_mem hw.2 e
theorem okT_struct {fs : Array Field} (hu : P.underlying t = some (.struct fs)) (h : OkT enc P w t cs) : cs.length = P.cellsOf t ∧ ∀ (i : Nat) (f : Field), fs[i]? = some f → OkT enc P w f.type ((cs.drop f.offset).take (P.cellsOf f.type)) := by
  obtain ⟨fuel, d, ps, ht, hw⟩ := h
  obtain ⟨xs, n, rfl, hx, hl, hxl, hf⟩ := DataW.trod_struct hu ht
  simp only [Prod.mk.injEq] at hx
  obtain ⟨rfl, _⟩ := hx
  refine ⟨hl, fun i f hi => ?_⟩
  have h1 := hf i f hi
  have hil : i < xs.length := by rw [hxl]; exact (Array.getElem?_eq_some_iff.1 hi).1
  rw [List.getElem?_eq_getElem hil] at h1
  refine ⟨n, xs[i].1, xs[i].2, h1, ?_⟩
  simp only [DataW.weights, hu] at hw
  refine weightsEach_mem hw (i := i) ?_ ?_
  · rw [List.getElem?_map]
    have : fs.toList[i]? = some f := by simpa using hi
    rw [this]; rfl
  · rw [List.getElem?_map, List.getElem?_eq_getElem hil]; rfl
theorem okT_array {n : Nat} {e : TypeId} (hu : P.underlying t = some (.array n e)) (h : OkT enc P w t cs) : cs.length = P.cellsOf t ∧ ∀ i, i < n → OkT enc P w e ((cs.drop (i * P.cellsOf e)).take (P.cellsOf e)) := by
  obtain ⟨fuel, d, ps, ht, hw⟩ := h
  obtain ⟨xs, m, rfl, hx, hl, hxl, hf⟩ := DataW.trod_array hu ht
  simp only [Prod.mk.injEq] at hx
  obtain ⟨rfl, _⟩ := hx
  refine ⟨hl, fun i hi => ?_⟩
  have h1 := hf i hi
  have hil : i < xs.length := by omega
  rw [List.getElem?_eq_getElem hil] at h1
  refine ⟨m, xs[i].1, xs[i].2, h1, ?_⟩
  simp only [DataW.weights, hu] at hw
  exact weightsAll_mem hw (List.mem_map.2 ⟨xs[i], List.getElem_mem hil, rfl⟩)
theorem cells?_get {b : Nat} {a : Addr} {n : Nat} {cs : List Value} (h : w.cells? b a n = some cs) : cs.length = n ∧ ∀ j v, cs[j]? = some v → w.cell? (a.add j) = some v := by
  unfold World.cells? at h
  split at h
  · have hl := mapM_some_length h
    simp at hl
    refine ⟨hl, fun j v hj => ?_⟩
    have hjl : j < n := by rw [← hl]; exact (List.getElem?_eq_some_iff.1 hj).1
    have := mapM_some_get h j j (by simp [hjl])
    rw [this, hj]
  · cases h
/-- A slice: its elements. -/
theorem okT_slice {e : TypeId} (hu : P.underlying t = some (.slice e)) (h : OkT enc P w t cs) : cs = [.slice none 0 0] ∨ ∃ a len cap, cs = [.slice (some a) len cap] ∧ len ≤ cap ∧ cap ≤ maxLen ∧ len * P.bytesOf e ≤ reachBytes ∧
    ∀ i, i < len → ∃ ecs, ecs.length = P.cellsOf e ∧ (∀ j v, ecs[j]? = some v → w.cell? (a.add (i * P.cellsOf e + j)) = some v) ∧ OkT enc P w e ecs := by
  obtain ⟨fuel, d, ps, ht, hw⟩ := h
  rcases DataW.trod_slice hu ht with ⟨h1, _⟩ | ⟨a, len, cap, elems, rest, n, rfl, rfl, hx, _, hlc, hcm, hel, hget, _, _⟩
  · exact .inl h1
  · right
    simp only [Prod.mk.injEq] at hx
    obtain ⟨rfl, _⟩ := hx
    simp only [DataW.weights, hu, List.all_cons, Bool.and_eq_true, List.all_append, List.length_map, decide_eq_true_eq] at hw
    refine ⟨a, len, cap, rfl, hlc, hcm, ?_, fun i hi => ?_⟩
    · have : len * P.bytesOf e ≤ (elems.length + rest.length) * P.bytesOf e := Nat.mul_le_mul_right _ (by omega)
      omega
    · have h1 := hget i hi
      have hil : i < elems.length := by omega
      rw [List.getElem?_eq_getElem hil] at h1
      cases hc : w.cells? 0 (a.add (i * P.cellsOf e)) (P.cellsOf e) with
      | none => rw [hc] at h1; cases h1
      | some ecs =>
        rw [hc] at h1
        simp only [Option.bind_some] at h1
        obtain ⟨hl, hcell⟩ := cells?_get hc
        refine ⟨ecs, hl, fun j v hj => by rw [← addr_add2]; exact hcell j v hj, n, elems[i].1, elems[i].2, h1, ?_⟩
        exact weightsAll_mem hw.2.1 (List.mem_map.2 ⟨elems[i], List.getElem_mem hil, rfl⟩)
/-- A slice whose elements are things of α. -/
theorem okT_list {e : TypeId} {α : Type} [Rep α] (Good : α → Prop) (hu : P.underlying t = some (.slice e)) (hs : P.cellsOf e = Rep.sz α) (he : ∀ ecs, OkT enc P w e ecs → ∃ a : α, ecs = Rep.cells a ∧ Good a) (h : OkT enc P w t cs) :
    ∃ v, ∃ xs : List α, cs = [v] ∧ v.oneCell' = true ∧ Sl w v (Rep.sz α) xs.length (cellsOf xs) ∧ (∀ a ∈ xs, Good a) ∧ xs.length * P.bytesOf e ≤ reachBytes := by
  rcases okT_slice hu h with rfl | ⟨a, len, cap, rfl, hlc, hcm, hb, hget⟩
  · exact ⟨_, [], rfl, rfl, Sl.nil w _, by simp, by simp⟩
  · have key : ∀ i, i < len → ∃ x : α, Good x ∧ ∀ j v, (Rep.cells x)[j]? = some v → w.cell? (a.add (i * Rep.sz α + j)) = some v := fun i hi => by
      obtain ⟨ecs, _, hc, hok⟩ := hget i hi
      obtain ⟨x, rfl, hg⟩ := he ecs hok
      exact ⟨x, hg, by rw [← hs]; exact hc⟩
    have build : ∀ m, m ≤ len → ∃ xs : List α, xs.length = m ∧ (∀ x ∈ xs, Good x) ∧ ∀ i (hi : i < xs.length) j v, (Rep.cells (xs[i]'hi))[j]? = some v → w.cell? (a.add (i * Rep.sz α + j)) = some v := by
      intro m
      induction m with
      | zero => intro _; exact ⟨[], rfl, by simp, fun i hi => by simp at hi⟩
      | succ m ih =>
        intro hm
        obtain ⟨xs, h1, h2, h3⟩ := ih (by omega)
        obtain ⟨x, hg, hc⟩ := key m (by omega)
        refine ⟨xs ++ [x], by simp [h1], ?_, fun i hi j v hj => ?_⟩
        · intro y hy
          rcases List.mem_append.1 hy with h | h
          · exact h2 y h
          · simp at h; subst h; exact hg
        · by_cases him : i < xs.length
          · rw [List.getElem_append_left him] at hj
            exact h3 i him j v hj
          · have : i = m := by simp at hi; omega
            subst this
            rw [List.getElem_append_right (by omega)] at hj
            simp at hj
            exact hc j v hj
    obtain ⟨xs, h1, h2, h3⟩ := build len (Nat.le_refl _)
    refine ⟨_, xs, rfl, rfl, ⟨cellsOf_len xs, some a, cap, by rw [h1], by rw [h1]; exact hlc, hcm, (fun h => by cases h), fun ad had j u hj => ?_⟩, h2, by rw [h1]; exact hb⟩
    cases had
    have hp : 0 < Rep.sz α := Rep.pos
    have hjl : j < xs.length * Rep.sz α := by rw [← cellsOf_len]; exact (List.getElem?_eq_some_iff.1 hj).1
    have hi : j / Rep.sz α < xs.length := Nat.div_lt_of_lt_mul (by rw [Nat.mul_comm]; exact hjl)
    have ho : j % Rep.sz α < Rep.sz α := Nat.mod_lt _ hp
    have ej : j = j / Rep.sz α * Rep.sz α + j % Rep.sz α := by rw [Nat.mul_comm]; exact (Nat.div_add_mod _ _).symm
    rw [ej] at hj ⊢
    rw [cellsOf_get hi ho] at hj
    exact h3 _ hi _ _ hj
/-- An array whose elements are things of α. -/
theorem okT_arrayL {n : Nat} {e : TypeId} {α : Type} [Rep α] (Good : α → Prop) (hu : P.underlying t = some (.array n e)) (hs : P.cellsOf e = Rep.sz α) (ht : P.cellsOf t = n * Rep.sz α) (he : ∀ ecs, OkT enc P w e ecs → ∃ a : α, ecs = Rep.cells a ∧ Good a) (h : OkT enc P w t cs) :
    ∃ xs : List α, cs = cellsOf xs ∧ xs.length = n ∧ ∀ a ∈ xs, Good a := by
  obtain ⟨hl, hget⟩ := okT_array hu h
  rw [ht] at hl
  have build : ∀ m, m ≤ n → ∃ xs : List α, xs.length = m ∧ (∀ x ∈ xs, Good x) ∧ cs.take (m * Rep.sz α) = cellsOf xs := by
    intro m
    induction m with
    | zero => intro _; exact ⟨[], rfl, by simp, by simp [cellsOf]⟩
    | succ m ih =>
      intro hm
      obtain ⟨xs, h1, h2, h3⟩ := ih (by omega)
      have h4 := hget m (by omega)
      rw [hs] at h4
      obtain ⟨x, hx, hg⟩ := he _ h4
      refine ⟨xs ++ [x], by simp [h1], ?_, ?_⟩
      · intro y hy
        rcases List.mem_append.1 hy with h | h
        · exact h2 y h
        · simp at h; subst h; exact hg
      · rw [cellsOf_append, ← h3, cellsOf_one, ← hx, Nat.add_mul, Nat.one_mul]
        exact (List.take_add ..)
  obtain ⟨xs, h1, h2, h3⟩ := build n (Nat.le_refl _)
  exact ⟨xs, by rw [← h3, List.take_of_length_le (by omega)], h1, h2⟩
theorem okT_u8 (hu : P.underlying t = some (.int .u8)) (h : OkT enc P w t cs) : ∃ b : UInt8, cs = Rep.cells b ∧ True := by
  obtain ⟨n, rfl, hw⟩ := okT_int hu h
  have := u8_of_wf hw
  refine ⟨UInt8.ofNat n.toNat, ?_, trivial⟩
  show [Value.int .u8 n] = [Value.int .u8 ((UInt8.ofNat n.toNat).toNat : Int)]
  have : ((UInt8.ofNat n.toNat).toNat : Int) = n := by simp; omega
  rw [this]
theorem okT_u8i (hu : P.underlying t = some (.int .u8)) (h : OkT enc P w t cs) : ∃ n : Int, cs = [.int .u8 n] ∧ 0 ≤ n ∧ n ≤ 255 := by
  obtain ⟨n, rfl, hw⟩ := okT_int hu h
  have := u8_of_wf hw
  exact ⟨n, rfl, by omega, by omega⟩
theorem okT_i64 (hu : P.underlying t = some (.int .i64)) (h : OkT enc P w t cs) : ∃ n : Int, cs = [.int .i64 n] ∧ I64 n := by
  obtain ⟨n, rfl, hw⟩ := okT_int hu h
  exact ⟨n, rfl, i64_of_wf hw⟩
/-- A slice of bytes. -/
theorem okT_bytes {e : TypeId} (hu : P.underlying t = some (.slice e)) (he : P.underlying e = some (.int .u8)) (hc : P.cellsOf e = 1) (hb : P.bytesOf e = 1) (h : OkT enc P w t cs) :
    ∃ v, ∃ l : List UInt8, cs = [v] ∧ v.oneCell' = true ∧ Sl w v 1 l.length (cellsOf l) ∧ l.length ≤ 140737488351232 := by
  obtain ⟨v, xs, h1, h2, h3, _, h5⟩ := okT_list (α := UInt8) (fun _ => True) hu hc (fun ecs h => okT_u8 he h) h
  refine ⟨v, xs, h1, h2, h3, ?_⟩
  rw [hb] at h5
  simpa [reachBytes] using h5
/-- Two numbers. -/
theorem okT_2int {e : TypeId} (hu : P.underlying t = some (.array 2 e)) (hc : P.cellsOf t = 2) (hu2 : P.underlying e = some (.int .i64)) (hc2 : P.cellsOf e = 1) (h : OkT enc P w t cs) : ∃ a b : Int, cs = [.int .i64 a, .int .i64 b] ∧ I64 a ∧ I64 b := by
  obtain ⟨hl, h1⟩ := okT_array hu h
  rw [hc] at hl
  rw [hc2] at h1
  obtain ⟨a, e1, i1⟩ := okT_i64 hu2 (h1 0 (by omega))
  obtain ⟨b, e2, i2⟩ := okT_i64 hu2 (h1 1 (by omega))
  match cs, hl with
  | [x, y], _ =>
    simp at e1 e2
    subst e1; subst e2
    exact ⟨a, b, rfl, i1, i2⟩
/-- A slice of slices of bytes. -/
theorem okT_bvs {e e2 : TypeId} (hu : P.underlying t = some (.slice e)) (hc0 : P.cellsOf e = 1) (hb0 : P.bytesOf e = 24) (hu2 : P.underlying e = some (.slice e2)) (he : P.underlying e2 = some (.int .u8)) (hc : P.cellsOf e2 = 1) (hb : P.bytesOf e2 = 1) (h : OkT enc P w t cs) :
    ∃ v, ∃ l : List Bv, cs = [v] ∧ v.oneCell' = true ∧ Sl w v 1 l.length (cellsOf l) ∧ (∀ b ∈ l, Sl w b.v 1 b.l.length (cellsOf b.l) ∧ b.l.length ≤ 140737488351232) ∧ l.length ≤ 140737488351232 := by
  obtain ⟨v, xs, h1, h2, h3, h4, h5⟩ := okT_list (α := Bv) (fun b => Sl w b.v 1 b.l.length (cellsOf b.l) ∧ b.l.length ≤ 140737488351232) hu hc0 (fun ecs h => by
    obtain ⟨v, l, rfl, o, s, b⟩ := okT_bytes hu2 he hc hb h
    exact ⟨⟨v, o, l⟩, rfl, s, b⟩) h
  refine ⟨v, xs, h1, h2, h3, h4, ?_⟩
  rw [hb0] at h5
  simp [reachBytes] at h5
  omega
/-- An argument: its value, its cells. -/
theorem arg_ok {b0 : Nat} {r : Reach} {v : Value} {d : DataW H} {p : List MemPlace} (hv : Value.okWide P w r b0 t v) (h : DataW.Trod enc P w 0 (fun _ => true) true t v d p) (hw : (d.weights P t).all (· ≤ reachBytes) = true) : OkT enc P w t v.cells.toList := by
  obtain ⟨fuel, hf⟩ := h
  exact ⟨fuel, d, p, hf, hw⟩
theorem arg_agg {b0 : Nat} {r : Reach} {v : Value} (ha : aggB P t = some true) (hv : Value.okWide P w r b0 t v) : v = .agg v.cells.toList.toArray := by
  unfold aggB at ha
  unfold Value.okWide at hv
  cases hu : P.underlying t with
  | none => rw [hu] at ha; cases ha
  | some x =>
    rw [hu] at ha hv
    cases x <;> simp at ha <;> (obtain ⟨cs, rfl, _⟩ := hv; simp [Value.cells])
theorem arg_one {b0 : Nat} {r : Reach} {v u : Value} (ha : aggB P t = some false) (hv : Value.okWide P w r b0 t v) (h : v.cells.toList = [u]) (h1 : u.oneCell' = true) : v = u := by
  cases v with
  | agg cs =>
    exfalso
    unfold aggB at ha
    unfold Value.okWide at hv
    cases hu : P.underlying t with
    | none => rw [hu] at ha; cases ha
    | some x =>
      rw [hu] at ha hv
      cases x <;> simp at ha <;> (simp [Cell.okWide, Cell.ok, hu] at hv)
  | _ => simpa [Value.cells] using h
end
theorem hread_ok {P : Program} {ts : List TypeId} (h : (ts.all fun t => P.readableRec t && decide (t < P.types.size)) = true) : ∀ t ∈ ts, P.readableRec t = true ∧ t < P.types.size := by
  intro t ht
  have := List.all_eq_true.1 h t ht
  simpa using this
theorem sized_two {H : Type} {P : Program} {t : TypeId} {ts : List TypeId} {d : DataW H} {ds : List (DataW H)} (h : (DataW.weightsEach P (t :: ts) (d :: ds)).all (· ≤ reachBytes) = true) : (d.weights P t).all (· ≤ reachBytes) = true ∧ (DataW.weightsEach P ts ds).all (· ≤ reachBytes) = true := by
  rw [DataW.weightsEach, List.all_append, Bool.and_eq_true] at h
  exact h
end Go.Proofs.Ytkcpgdkchglhhaa
