/- Maps of structs by structs. No condition. -/
import Derived.Test.YtmjpdibjdgjhgaaSepT
import Derived.MapKept
namespace Go.Proofs.Ytmjpdibjdgjhgaa
open Go.RowKit
set_option linter.unusedSimpArgs false
set_option linter.unusedVariables false
theorem check_2int {P : Program} {t e : TypeId} {f0 f1 : Field} (hu : P.underlying t = some (.struct #[f0, f1])) (h0 : f0.type = e ∧ f0.offset = 0 ∧ f0.name ≠ "_") (h1 : f1.type = e ∧ f1.offset = 1 ∧ f1.name ≠ "_") (he : P.underlying e = some (.int .i64)) (w : World) (em : Bool) (r n : Int) :
    (Instr.checkKey em 10000 t (.agg #[.int .i64 r, .int .i64 n])).run P w = .ok () w := by
  have hA : aggB P e = some false := by unfold aggB; rw [he]
  have key : ∀ m, (∀ (v : Int), (Instr.checkKey em m e (.int .i64 v)).run P w = .ok () w) → (Instr.checkKey em (m + 1) t (.agg #[.int .i64 r, .int .i64 n])).run P w = .ok () w := fun m hi => by
    simp [Instr.checkKey, run_underlying hu, part, run_isAgg w hA, h0, h1, hi]
  exact key 9999 fun v => MapKept.run_checkKey (d := .int .i64) (k := .int .i64 v) he rfl em 9998
/-- A key's type: compared cell by cell, and always hashable. -/
class KeyT (P : outParam Program) (t : TypeId) (κ : outParam Type) [Rep κ] extends EqT P t κ where
  check : ∀ (w : World) (em : Bool) (a : κ), (Instr.checkKey em 10000 t (.agg (Rep.cells a).toArray)).run P w = .ok () w
@[reducible] def aggV {α : Type} [Rep α] (a : α) : Value := .agg (Rep.cells a).toArray
section
variable {κ β : Type} [Rep κ] [Rep β]
/-- Block g is a map: what it has, in the order in which that came. -/
def MapT (g : Nat) (m : List (κ × β)) : Assn := fun h => ∃ es clock, h = Frag.one g (.map es clock) ∧ es.toList.map (fun e => (e.key, e.val)) = m.map fun p => (aggV p.1, aggV p.2)
def mpos [DecidableEq κ] (k : κ) : List (κ × β) → Nat → Option (Nat × β)
  | [], _ => none
  | p :: m, i => if k = p.1 then some (i, p.2) else mpos k m (i + 1)
theorem sameBits_leaf (n : Nat) {l : Leaf} {v : Value} (h : l.ok v = true) : Instr.sameBits n v v = true := by
  cases l <;> cases v <;> simp [Leaf.ok] at h
  · cases n <;> simp [Instr.sameBits]
  · cases n <;> simp [Instr.sameBits]
  · rename_i str
    exact MapKept.sameBits_self (d := .string) (k := .string str) trivial n
theorem okL_mem : ∀ {ls : List Leaf} {vs : List Value}, okL ls vs = true → ∀ v ∈ vs, ∃ l : Leaf, l.ok v = true
  | [], [], _, v, hv => by simp at hv
  | l :: ls, u :: vs, h, v, hv => by
    simp [okL] at h
    rcases List.mem_cons.1 hv with rfl | hv
    · exact ⟨l, h.1⟩
    · exact okL_mem h.2 v hv
  | [], _ :: _, h, _, _ => by simp [okL] at h
  | _ :: _, [], h, _, _ => by simp [okL] at h
theorem zip_self_all {α : Type} (p : α → α → Bool) : ∀ (l : List α), (∀ x ∈ l, p x x = true) → ((l.zip l).all fun (x, y) => p x y) = true
  | [], _ => rfl
  | a :: l, h => by
    simp only [List.zip_cons_cons, List.all_cons, Bool.and_eq_true]
    exact ⟨h a (List.mem_cons_self ..), zip_self_all p l fun x hx => h x (List.mem_cons_of_mem _ hx)⟩
variable {P : Program} {kt : TypeId}
theorem run_stays [K : KeyT P kt κ] (k : κ) (w : World) : (Instr.keyThatStays (aggV k) (aggV k)).run P w = .ok (aggV k) w := by
  have h : Instr.sameBits 10000 (aggV k) (aggV k) = true := by
    show Instr.sameBits (9999 + 1) (.agg _) (.agg _) = true
    simp only [Instr.sameBits, beq_self_eq_true, Bool.true_and]
    refine zip_self_all (fun x y => Instr.sameBits 9999 x y) _ fun x hx => ?_
    obtain ⟨l, hl⟩ := okL_mem (K.ok k) x hx
    exact sameBits_leaf _ hl
  simp [Instr.keyThatStays, h]
theorem run_asking [K : KeyT P kt κ] [DecidableEq κ] (k : κ) (w : World) : ∀ (es : List MapEntry) (m : List (κ × β)) (i : Nat), es.map (fun e => (e.key, e.val)) = m.map (fun p => (aggV p.1, aggV p.2)) →
    (Instr.findAsking kt (aggV k) es i).run P w = .ok ((mpos k m i).map fun q => (q.1, aggV q.2)) w
  | [], [], i, _ => by simp [Instr.findAsking, mpos]
  | e :: es, p :: m, i, h => by
    simp only [List.map_cons, List.cons.injEq, Prod.mk.injEq] at h
    obtain ⟨⟨h1, h2⟩, h3⟩ := h
    have he := run_eqT (P := P) (t := kt) k p.1 w
    unfold Instr.findAsking
    rw [h1]
    by_cases hk : k = p.1
    · rw [decide_eq_true hk] at he
      rw [show mpos k (p :: m) i = some (i, p.2) from if_pos hk]
      simp [he, h2]
    · rw [decide_eq_false hk] at he
      rw [show mpos k (p :: m) i = mpos k m (i + 1) from if_neg hk]
      simp [he, run_asking k w es m (i + 1) h3]
  | [], _ :: _, _, h => by simp at h
  | _ :: _, [], _, h => by simp at h
theorem run_find [K : KeyT P kt κ] [DecidableEq κ] (k : κ) (w : World) (es : List MapEntry) (m : List (κ × β)) (h : es.map (fun e => (e.key, e.val)) = m.map (fun p => (aggV p.1, aggV p.2))) :
    (Instr.findKey kt (aggV k) es).run P w = .ok ((mpos k m 0).map fun q => (q.1, aggV q.2)) w := by
  have ha := K.agg
  unfold aggB at ha
  cases hu : P.underlying kt with
  | none => rw [hu] at ha; cases ha
  | some d =>
    rw [hu] at ha
    match es, m, h with
    | [], [], _ => simp [Instr.findKey, run_underlying hu, Instr.findNow, mpos]
    | e :: es, p :: m, h =>
      have hr := run_asking (P := P) (kt := kt) k w (e :: es) (p :: m) 0 h
      have hn : Instr.findNow d (aggV k) (e :: es) 0 = none := by
        cases d <;> simp at ha <;> simp [Instr.findNow, Instr.sameNow]
      simp only [Instr.findKey, Sem.run_bind, run_underlying hu, Result.andThen_ok, hn, hr]
    | [], _ :: _, h => simp at h
    | _ :: _, [], h => simp at h
end
section
variable {κ β : Type} [Rep κ] [Rep β] {L : List Assn} {F : Frag} {w : World}
theorem map_heap {i g : Nat} {m : List (κ × β)} (hi : L[i]? = some (MapT g m)) (s : Sats w L F) : ∃ es clock, w.heap[g]? = some (.map es clock) ∧ es.toList.map (fun e => (e.key, e.val)) = m.map fun p => (aggV p.1, aggV p.2) := by
  obtain ⟨h, ⟨es, clock, rfl, he⟩, d, s'⟩ := Sats.pick hi s
  exact ⟨es, clock, Sats.frame_left s' g _ (Frag.one_self g _), he⟩
theorem map_set {i g : Nat} {m m' : List (κ × β)} {es es' : Array MapEntry} {clock clock' : Nat} (hi : L[i]? = some (MapT g m)) (hg : w.heap[g]? = some (.map es clock)) (he : es'.toList.map (fun e => (e.key, e.val)) = m'.map fun p => (aggV p.1, aggV p.2)) (s : Sats w L F) :
    Sats { w with heap := w.heap.setIfInBounds g (.map es' clock') } (L.set i (MapT g m')) F := by
  obtain ⟨h, ⟨es0, clock0, rfl, _⟩, d, s'⟩ := Sats.pick hi s
  have hlt : g < w.heap.size := (Array.getElem?_eq_some_iff.1 hg).1
  refine Sats.rewrite (o' := .map es' clock') (List.getElem?_eq_some_iff.1 hi).1 d s' ⟨es', clock', rfl, he⟩ (fun n hn => ?_) ?_
  · show (w.heap.setIfInBounds g _)[n]? = _
    rw [Array.getElem?_setIfInBounds_ne (Ne.symm hn)]
  · show (w.heap.setIfInBounds g _)[g]? = _
    simp [hlt]
end
section
variable {P : Program} {n : Nat} {ops : Array Oper} {Q : Post} {f : Nat → Value} {L : List Assn} {rest : List Oper} {d : Nat} {ty : TypeId} {pos : String} {af : Array Edge}
variable {κ β : Type} [Rep κ] [Rep β]
theorem st_makeMap (κ β : Type) [Rep κ] [Rep β] {t : TypeId} (hd : Nat.blt d n = true) (h : ∀ g, ExL P n ops rest Q (upd f d (.map (some g))) (MapT g ([] : List (κ × β)) :: L)) : ExL P n ops (⟨some d, .makeMap t none, ty, pos, af, none⟩ :: rest) Q f L := by
  refine ExL.eff rfl hd (R := fun v L' => ∃ g, v = .map (some g) ∧ L' = MapT g ([] : List (κ × β)) :: L) (fun F w s => ?_) ?_
  · refine ⟨_, w.alloc (.map #[] 0), _, .inl (by simp [execOp, Instr.makeMap]), Rest.alloc (Rest.refl w) _, Sats.alloc _ s (A := MapT w.heap.size ([] : List (κ × β))) ⟨#[], 0, rfl, rfl⟩, w.heap.size, rfl, rfl⟩
  · rintro v L' ⟨g, rfl, rfl⟩
    exact h g
variable [DecidableEq κ] {t kt et : TypeId} [K : KeyT P kt κ]
theorem run_lookup [Z : ZRep P et β] {i g : Nat} {m : List (κ × β)} {k : κ} {w : World} {F : Frag} (ht : P.underlying t = some (.map kt et)) (hz : ((P.info? et).bind (·.zero)) = some (aggV Z.z)) (hi : L[i]? = some (MapT g m)) (s : Sats w L F) :
    (Instr.lookup t (.map (some g)) (aggV k) true).run P w = .ok (.tuple #[match mpos k m 0 with | some q => aggV q.2 | none => aggV Z.z, .bool (mpos k m 0).isSome]) w := by
  obtain ⟨es, clock, hg, he⟩ := map_heap hi s
  have hf := run_find (P := P) (kt := kt) k w es.toList m he
  have hc := K.check w es.isEmpty k
  have hzv : (zeroValue et).run P w = .ok (aggV Z.z) w := by
    cases hii : P.info? et with
    | none => rw [hii] at hz; cases hz
    | some inf =>
      rw [hii] at hz
      have hz : inf.zero = some (aggV Z.z) := hz
      simp [zeroValue, typeInfo, hii, hz]
  cases hp : mpos k m 0 with
  | none =>
    rw [hp] at hf
    simp [Instr.lookup, run_underlying ht, MapKept.run_getObj_map hg, hc, hf, hzv]
  | some q =>
    rw [hp] at hf
    simp [Instr.lookup, run_underlying ht, MapKept.run_getObj_map hg, hc, hf]
theorem st_lookup_some [Z : ZRep P et β] (i : Nat) {x y : Operand} {g j : Nat} {m : List (κ × β)} {k : κ} {b : β} (hd : Nat.blt d n = true) (hx : evalF f x = .map (some g)) (hy : evalF f y = .agg (Rep.cells k).toArray) (hi : L[i]? = some (MapT g m)) (ht : P.underlying t = some (.map kt et)) (hz : ((P.info? et).bind (·.zero)) = some (aggV Z.z))
    (hp : mpos k m 0 = some (j, b)) (h : ExL P n ops rest Q (upd f d (.tuple #[.agg (Rep.cells b).toArray, .bool true])) L) : ExL P n ops (⟨some d, .lookup t x y true, ty, pos, af, none⟩ :: rest) Q f L :=
  ExL.val rfl rfl hd (fun F w s => by
    have := run_lookup (P := P) (k := k) ht hz hi s
    rw [hp] at this
    simp only [aggV] at this
    simp [execOp, hx, hy, this]) h
theorem st_lookup_none [Z : ZRep P et β] (i : Nat) {x y : Operand} {g : Nat} {m : List (κ × β)} {k : κ} (hd : Nat.blt d n = true) (hx : evalF f x = .map (some g)) (hy : evalF f y = .agg (Rep.cells k).toArray) (hi : L[i]? = some (MapT g m)) (ht : P.underlying t = some (.map kt et)) (hz : ((P.info? et).bind (·.zero)) = some (aggV Z.z))
    (hp : mpos k m 0 = none) (h : ExL P n ops rest Q (upd f d (.tuple #[.agg (Rep.cells Z.z).toArray, .bool false])) L) : ExL P n ops (⟨some d, .lookup t x y true, ty, pos, af, none⟩ :: rest) Q f L :=
  ExL.val rfl rfl hd (fun F w s => by
    have := run_lookup (P := P) (k := k) ht hz hi s
    rw [hp] at this
    simp only [aggV] at this
    simp [execOp, hx, hy, this]) h
/-- m[k] = b: k is new. -/
theorem st_mapNew (i : Nat) {x y z : Operand} {g : Nat} {m : List (κ × β)} {k : κ} {b : β} (hx : evalF f x = .map (some g)) (hy : evalF f y = .agg (Rep.cells k).toArray) (hz : evalF f z = .agg (Rep.cells b).toArray) (hi : L[i]? = some (MapT g m)) (ht : P.underlying t = some (.map kt et))
    (hp : mpos k m 0 = none) {L' : List Assn} (hL : L.set i (MapT g (m ++ [(k, b)])) = L') (h : ExL P n ops rest Q f L') : ExL P n ops (⟨none, .mapUpdate t x y z, ty, pos, af, none⟩ :: rest) Q f L := by
  subst hL
  refine ExL.eff rfl rfl (R := fun _ L2 => L2 = L.set i (MapT g (m ++ [(k, b)]))) (fun F w s => ?_) (fun v L2 e => by subst e; exact h)
  obtain ⟨es, clock, hg, he⟩ := map_heap hi s
  have hf := run_find (P := P) (kt := kt) k w es.toList m he
  have hc := K.check w false k
  rw [hp] at hf
  refine ⟨undef, _, _, .inr ⟨?_, rfl⟩, ?_, map_set (es' := es.push { key := aggV k, val := aggV b, born := clock }) (clock' := clock + 1) hi hg (by simp [he]) s, rfl⟩
  · simp [execOp, hx, hy, hz, Instr.mapUpdate, run_underlying ht, MapKept.run_getObj_map hg, hc, hf, MapKept.run_setObj_map _ hg]
  · exact ⟨rfl, rfl, rfl⟩
theorem eraseIdx_map {α γ : Type} (φ : α → γ) : ∀ (l : List α) (i : Nat), (l.eraseIdx i).map φ = (l.map φ).eraseIdx i
  | [], i => by simp
  | a :: l, 0 => by simp
  | a :: l, i + 1 => by simp [eraseIdx_map φ l i]
/-- delete(m, k): k is there. -/
theorem st_mapDel (i : Nat) {x y : Operand} {g j : Nat} {m : List (κ × β)} {k : κ} {b : β} {ts : Array TypeId} (hx : evalF f x = .map (some g)) (hy : evalF f y = .agg (Rep.cells k).toArray) (hi : L[i]? = some (MapT g m)) (hts : ts[0]? = some t) (ht : P.underlying t = some (.map kt et))
    (hp : mpos k m 0 = some (j, b)) {L' : List Assn} (hL : L.set i (MapT g (m.eraseIdx j)) = L') (h : ExL P n ops rest Q f L') : ExL P n ops (⟨none, .call ⟨.builtin .delete, #[x, y], ts⟩, ty, pos, af, none⟩ :: rest) Q f L := by
  subst hL
  refine ExL.eff rfl rfl (R := fun _ L2 => L2 = L.set i (MapT g (m.eraseIdx j))) (fun F w s => ?_) (fun v L2 e => by subst e; exact h)
  obtain ⟨es, clock, hg, he⟩ := map_heap hi s
  have hf := run_find (P := P) (kt := kt) k w es.toList m he
  have hc := K.check w es.isEmpty k
  rw [hp] at hf
  refine ⟨.tuple #[], _, _, .inl ?_, ?_, map_set (es' := es.eraseIdxIfInBounds j) (clock' := clock) hi hg (by rw [Array.toList_eraseIdxIfInBounds, eraseIdx_map, he, eraseIdx_map]) s, rfl⟩
  · simp [execOp, resolve, invoke, builtin, hx, hy, Builtin.delete_, hts, run_underlying ht, MapKept.run_getObj_map hg, hc, hf, MapKept.run_setObj_map _ hg]
  · exact ⟨rfl, rfl, rfl⟩
end
end Go.Proofs.Ytmjpdibjdgjhgaa
