/- Equality of structs and arrays, cell by cell. No condition. -/
import Derived.Test.YtkcpgdkchglhhaaSepU
import Derived.Laws.StructEq
import Derived.ChangeKeysEq
namespace Go.Proofs.Ytkcpgdkchglhhaa
open Go.RowKit
set_option linter.unusedSimpArgs false
set_option linter.unusedVariables false
/-- A cell's kind. -/
inductive Leaf where
  | b
  | i (k : IntKind)
  | s
def Leaf.ok : Leaf → Value → Bool
  | .b, .bool _ => true
  | .i k, .int k' _ => decide (k = k')
  | .s, .string _ => true
  | _, _ => false
def okL : List Leaf → List Value → Bool
  | [], [] => true
  | l :: ls, v :: vs => l.ok v && okL ls vs
  | _, _ => false
def leavesF (g : TypeId → Option (List Leaf)) : List Field → Nat → Option (List Leaf)
  | [], _ => some []
  | f :: fs, o => if f.offset = o ∧ f.name ≠ "_" then (g f.type).bind fun l => (leavesF g fs (o + l.length)).map (l ++ ·) else none
/-- The kinds of a type's cells, where it is compared cell by cell. -/
def leaves (P : Program) : Nat → TypeId → Option (List Leaf)
  | 0, _ => none
  | d + 1, t => ((match P.underlying t with
    | some .bool => some [.b]
    | some (.int k) => some [.i k]
    | some .string => some [.s]
    | some (.struct fs) => if P.stoodInHeld t = true then none else leavesF (leaves P d) fs.toList 0
    | some (.array n e) => (leaves P d e).map fun l => (List.replicate n l).flatten
    | _ => none) : Option (List Leaf)).bind fun l => if l.length = P.cellsOf t ∧ 0 < l.length then some l else none
theorem okL_len : ∀ {ls : List Leaf} {vs : List Value}, okL ls vs = true → vs.length = ls.length
  | [], [], _ => rfl
  | _ :: _, _ :: _, h => by simp [okL] at h; simp [okL_len h.2]
  | [], _ :: _, h => by simp [okL] at h
  | _ :: _, [], h => by simp [okL] at h
theorem okL_split : ∀ {a b : List Leaf} {vs : List Value}, okL (a ++ b) vs = true → okL a (vs.take a.length) = true ∧ okL b (vs.drop a.length) = true
  | [], b, vs, h => by simpa [okL] using h
  | l :: a, b, v :: vs, h => by
    simp [okL] at h
    obtain ⟨h1, h2⟩ := okL_split h.2
    simp [okL, h.1, h1, h2]
  | _ :: _, _, [], h => by simp [okL] at h
section
variable {P : Program}
theorem leaves_spec {d : Nat} {t : TypeId} {l : List Leaf} (h : leaves P d t = some l) : l.length = P.cellsOf t ∧ 0 < l.length ∧ (aggB P t = some true ∨ (aggB P t = some false ∧ l.length = 1)) := by
  cases d with
  | zero => simp [leaves] at h
  | succ d =>
    simp only [leaves, Option.bind_eq_some_iff] at h
    obtain ⟨l', h1, h2⟩ := h
    split at h2
    · cases h2
      rename_i hl
      refine ⟨hl.1, hl.2, ?_⟩
      unfold aggB
      cases hu : P.underlying t with
      | none => rw [hu] at h1; cases h1
      | some k => rw [hu] at h1; cases k <;> simp at h1 ⊢ <;> subst h1 <;> rfl
    · cases h2
/-- The value of a type whose cells these are. -/
def FormV (P : Program) (e : TypeId) (a : Value) (cs : List Value) : Prop := (aggB P e = some true ∧ a = .agg cs.toArray) ∨ (aggB P e = some false ∧ cs = [a])
theorem run_part' {d : Nat} {e : TypeId} {l : List Leaf} (hl : leaves P d e = some l) {xs : Array Value} {off : Nat} (ho : okL l ((xs.toList.drop off).take l.length) = true) (w : World) : ∃ a, (part e xs off).run P w = .ok a w ∧ FormV P e a ((xs.toList.drop off).take l.length) := by
  obtain ⟨h1, h2, h3⟩ := leaves_spec hl
  have hlen := okL_len ho
  rcases h3 with hA | ⟨hA, hone⟩
  · refine ⟨.agg (xs.extract off (off + l.length)), ?_, .inl ⟨hA, ?_⟩⟩
    · simp [part, run_isAgg w hA, run_sizeOf' w h1.symm h2]
    · congr 1
      apply Array.ext'
      rw [Array.toList_extract]
      simp [List.extract]
  · rw [hone] at hlen ⊢
    obtain ⟨v, hv⟩ : ∃ v, (xs.toList.drop off).take 1 = [v] := by
      match hx : (xs.toList.drop off).take 1, hlen with
      | [v], _ => exact ⟨v, rfl⟩
    have hg : xs[off]? = some v := by
      have := congrArg (fun l : List Value => l[0]?) hv
      simp only [List.getElem?_take, List.getElem?_drop] at this
      simpa using this
    exact ⟨v, by simp [part, run_isAgg w hA, hg], .inr ⟨hA, hv⟩⟩
def EqL (P : Program) (dd : Nat) (e : TypeId) (l : List Leaf) : Prop := ∀ (w : World) (a b : Value) (xs ys : List Value), FormV P e a xs → FormV P e b ys → okL l xs = true → okL l ys = true → ∃ r : Bool, (Op.equalIn dd e a b).run P w = .ok r w ∧ (r = true ↔ xs = ys)
theorem split_eq {xs ys : List Value} {m : Nat} : xs = ys ↔ xs.take m = ys.take m ∧ xs.drop m = ys.drop m :=
  ⟨fun h => by rw [h]; exact ⟨rfl, rfl⟩, fun ⟨h1, h2⟩ => by rw [← List.take_append_drop m xs, h1, h2, List.take_append_drop]⟩
theorem run_eqFields' {d dd : Nat} (IH : ∀ t l, leaves P d t = some l → EqL P dd t l) (X Y : Array Value) (w : World) : ∀ (fs : List Field) (o : Nat) (l : List Leaf), leavesF (leaves P d) fs o = some l → okL l (X.toList.drop o) = true → okL l (Y.toList.drop o) = true →
    ∃ r : Bool, (Op.eqFields dd X Y fs).run P w = .ok r w ∧ (r = true ↔ X.toList.drop o = Y.toList.drop o)
  | [], o, l, h, h1, h2 => by
    simp [leavesF] at h
    subst h
    have e1 := List.eq_nil_of_length_eq_zero (okL_len h1)
    have e2 := List.eq_nil_of_length_eq_zero (okL_len h2)
    exact ⟨true, by simp [Op.eqFields], by rw [e1, e2]; simp⟩
  | f :: fs, o, l, h, h1, h2 => by
    simp only [leavesF] at h
    split at h
    · rename_i hf
      obtain ⟨ho, hn⟩ := hf
      simp only [Option.bind_eq_some_iff, Option.map_eq_some_iff] at h
      obtain ⟨lf, hlf, l', hl', rfl⟩ := h
      obtain ⟨a1, a2⟩ := okL_split h1
      obtain ⟨b1, b2⟩ := okL_split h2
      obtain ⟨a, p1, f1⟩ := run_part' hlf (xs := X) (off := o) a1 w
      obtain ⟨b, p2, f2⟩ := run_part' hlf (xs := Y) (off := o) b1 w
      obtain ⟨r, hr, hiff⟩ := IH _ _ hlf w a b _ _ f1 f2 a1 b1
      rw [List.drop_drop] at a2 b2
      obtain ⟨r', hr', hiff'⟩ := run_eqFields' IH X Y w fs _ l' hl' a2 b2
      rw [← ho] at p1 p2
      have hs : (X.toList.drop o = Y.toList.drop o) ↔ (r = true ∧ r' = true) := by
        rw [split_eq (m := lf.length), hiff, hiff', List.drop_drop, List.drop_drop]
      cases r
      · exact ⟨false, by simp only [Op.eqFields, hn, ne_eq, not_false_eq_true, if_true, Sem.run_bind, p1, p2, hr, Result.andThen_ok, Bool.not_false, Sem.run_pure], by rw [hs]; simp⟩
      · exact ⟨r', by simpa only [Op.eqFields, hn, ne_eq, not_false_eq_true, if_true, Sem.run_bind, p1, p2, hr, Result.andThen_ok, Bool.not_true, Bool.false_eq_true, if_false] using hr', by rw [hs]; simp⟩
    · cases h
theorem run_eqItems' {d dd : Nat} {e : TypeId} {le : List Leaf} (hle : leaves P d e = some le) (IH : EqL P dd e le) (X Y : Array Value) (w : World) : ∀ (m k : Nat), okL (List.replicate m le).flatten (X.toList.drop (k * le.length)) = true → okL (List.replicate m le).flatten (Y.toList.drop (k * le.length)) = true →
    ∃ r : Bool, (Op.eqItems dd e (P.cellsOf e) X Y (List.range' k m)).run P w = .ok r w ∧ (r = true ↔ X.toList.drop (k * le.length) = Y.toList.drop (k * le.length))
  | 0, k, h1, h2 => by
    have e1 := List.eq_nil_of_length_eq_zero (okL_len h1)
    have e2 := List.eq_nil_of_length_eq_zero (okL_len h2)
    exact ⟨true, by simp [Op.eqItems], by rw [e1, e2]; simp⟩
  | m + 1, k, h1, h2 => by
    rw [List.replicate_succ, List.flatten_cons] at h1 h2
    obtain ⟨a1, a2⟩ := okL_split h1
    obtain ⟨b1, b2⟩ := okL_split h2
    obtain ⟨a, p1, f1⟩ := run_part' hle (xs := X) (off := k * le.length) a1 w
    obtain ⟨b, p2, f2⟩ := run_part' hle (xs := Y) (off := k * le.length) b1 w
    obtain ⟨r, hr, hiff⟩ := IH w a b _ _ f1 f2 a1 b1
    have hk : k * le.length + le.length = (k + 1) * le.length := by rw [Nat.add_mul]; omega
    rw [List.drop_drop, hk] at a2 b2
    obtain ⟨r', hr', hiff'⟩ := run_eqItems' hle IH X Y w m (k + 1) a2 b2
    rw [(leaves_spec hle).1] at p1 p2
    have hs : (X.toList.drop (k * le.length) = Y.toList.drop (k * le.length)) ↔ (r = true ∧ r' = true) := by
      rw [split_eq (m := le.length), hiff, hiff', List.drop_drop, List.drop_drop, hk]
    rw [List.range'_succ]
    cases r
    · exact ⟨false, by simp only [Op.eqItems, Sem.run_bind, p1, p2, hr, Result.andThen_ok, Bool.not_false, if_true, Sem.run_pure], by rw [hs]; simp⟩
    · exact ⟨r', by simpa only [Op.eqItems, Sem.run_bind, p1, p2, hr, Result.andThen_ok, Bool.not_true, Bool.false_eq_true, if_false] using hr', by rw [hs]; simp⟩
theorem run_equalIn' (j : Nat) : ∀ (d : Nat) (t : TypeId) (l : List Leaf), leaves P d t = some l → EqL P (j + d) t l
  | 0, _, _, h => by simp [leaves] at h
  | d + 1, t, l, h => by
    intro w a b xs ys fa fb oa ob
    have h0 := h
    simp only [leaves, Option.bind_eq_some_iff] at h
    obtain ⟨l', h1, h2⟩ := h
    split at h2
    case isFalse => cases h2
    cases h2
    have agg : ∀ v cs, FormV P t v cs → aggB P t = some true → v = .agg cs.toArray := fun v cs hv ht => by
      rcases hv with ⟨_, h⟩ | ⟨h, _⟩
      · exact h
      · rw [ht] at h; cases h
    have one : ∀ v cs, FormV P t v cs → aggB P t = some false → cs = [v] := fun v cs hv ht => by
      rcases hv with ⟨h, _⟩ | ⟨_, h⟩
      · rw [ht] at h; cases h
      · exact h
    cases hu : P.underlying t with
    | none => rw [hu] at h1; cases h1
    | some k =>
      rw [hu] at h1
      cases k <;> simp only [reduceCtorEq, Option.some.injEq] at h1
      case bool =>
        subst h1
        obtain rfl := one a xs fa (by simp [aggB, hu])
        obtain rfl := one b ys fb (by simp [aggB, hu])
        cases a <;> simp [okL, Leaf.ok] at oa
        cases b <;> simp [okL, Leaf.ok] at ob
        exact ⟨_, run_equalIn_bool' w (j + d) t _ _ hu, by simp⟩
      case int q =>
        subst h1
        obtain rfl := one a xs fa (by simp [aggB, hu])
        obtain rfl := one b ys fb (by simp [aggB, hu])
        cases a <;> simp [okL, Leaf.ok] at oa
        cases b <;> simp [okL, Leaf.ok] at ob
        subst oa; subst ob
        exact ⟨_, run_equalIn_int w (j + d) t _ _ _ _ hu, by simp⟩
      case string =>
        subst h1
        obtain rfl := one a xs fa (by simp [aggB, hu])
        obtain rfl := one b ys fb (by simp [aggB, hu])
        cases a <;> simp [okL, Leaf.ok] at oa
        cases b <;> simp [okL, Leaf.ok] at ob
        exact ⟨_, run_equalIn_string w (j + d) t _ _ hu, by simp [ByteArray.toList_eq, ByteArray.ext_iff]⟩
      case struct fs =>
        split at h1
        · cases h1
        · rename_i hst
          have hA : aggB P t = some true := by simp [aggB, hu]
          obtain rfl := agg a xs fa hA
          obtain rfl := agg b ys fb hA
          have hfs : P.fieldsOf t = fs := by simp [Program.fieldsOf, hu]
          obtain ⟨r, hr, hiff⟩ := run_eqFields' (fun t l h => run_equalIn' j d t l h) xs.toArray ys.toArray w fs.toList 0 l h1 (by simpa using oa) (by simpa using ob)
          refine ⟨r, ?_, by simpa using hiff⟩
          rw [show j + (d + 1) = (j + d) + 1 from rfl, run_equalIn_struct w (j + d) t _ _ (by rw [hfs]; exact hu) (by simpa using hst), hfs]
          exact hr
      case array n e =>
        simp only [Option.map_eq_some_iff] at h1
        obtain ⟨le, hle, rfl⟩ := h1
        have hA : aggB P t = some true := by simp [aggB, hu]
        obtain rfl := agg a xs fa hA
        obtain rfl := agg b ys fb hA
        have hpe : ∃ i, P.info? e = some i := by
          have := (leaves_spec hle).1
          have hp := (leaves_spec hle).2.1
          rw [this] at hp
          unfold Program.cellsOf at hp
          cases hi : P.info? e with
          | none => rw [hi] at hp; simp at hp
          | some i => exact ⟨i, rfl⟩
        obtain ⟨i, hi⟩ := hpe
        obtain ⟨r, hr, hiff⟩ := run_eqItems' hle (run_equalIn' j d e le hle) xs.toArray ys.toArray w n 0 (by simpa using oa) (by simpa using ob)
        refine ⟨r, ?_, by simpa using hiff⟩
        rw [show j + (d + 1) = (j + d) + 1 from rfl, run_equalIn_array w (j + d) _ _ hu hi, List.range_eq_range']
        exact hr
/-- Things that are compared as the cells that they lie in. -/
class EqT (P : outParam Program) (t : TypeId) (α : outParam Type) [Rep α] where
  depth : Nat
  ls : List Leaf
  small : Nat.ble depth 10000 = true
  leaves : leaves P depth t = some ls
  agg : aggB P t = some true
  guard : P.eqGuardType P.depth t = false
  ok : ∀ a : α, okL ls (Rep.cells a) = true
  inj : ∀ a b : α, Rep.cells a = Rep.cells b → a = b
section
variable {α : Type} [Rep α] {t : TypeId} [E : EqT P t α]
theorem run_eqT [DecidableEq α] (a b : α) (w : World) : (Op.equal t (.agg (Rep.cells a).toArray) (.agg (Rep.cells b).toArray)).run P w = .ok (decide (a = b)) w := by
  have hs := Nat.le_of_ble_eq_true E.small
  obtain ⟨r, hr, hiff⟩ := run_equalIn' (P := P) (10000 - E.depth) E.depth t E.ls E.leaves w _ _ _ _ (.inl ⟨E.agg, rfl⟩) (.inl ⟨E.agg, rfl⟩) (E.ok a) (E.ok b)
  rw [show 10000 - E.depth + E.depth = 10000 by omega] at hr
  show (Op.equalIn 10000 t _ _).run P w = _
  rw [hr]
  congr 1
  by_cases h : a = b
  · subst h; simpa using hiff
  · rw [decide_eq_false h]
    cases r
    · rfl
    · exact absurd (E.inj _ _ (hiff.1 rfl)) h
variable {f : Nat → Value} {L : List Assn} {d : Nat} {ty : TypeId} {pos : String} {af : Array Edge} {gd : Option (Nat × Bool)} {yt : TypeId} {x y : Operand} [DecidableEq α]
theorem vl_eqlT {a b : α} (hx : evalF f x = .agg (Rep.cells a).toArray) (hy : evalF f y = .agg (Rep.cells b).toArray) : Val P ⟨some d, .binOp .eql t x y yt, ty, pos, af, gd⟩ f L (.bool (decide (a = b))) :=
  vl_eqv hx hy (fun w => run_eqGuard_agg w .eql t x y _ _ E.guard) (fun w => by
    simp only [binOp, Sem.run_bind, run_eqT a b w, Result.andThen_ok, Sem.run_pure])
theorem vl_neqT {a b : α} (hx : evalF f x = .agg (Rep.cells a).toArray) (hy : evalF f y = .agg (Rep.cells b).toArray) : Val P ⟨some d, .binOp .neq t x y yt, ty, pos, af, gd⟩ f L (.bool (decide (a ≠ b))) :=
  vl_eqv hx hy (fun w => run_eqGuard_agg w .neq t x y _ _ E.guard) (fun w => by
    simp only [binOp, Sem.run_bind, run_eqT a b w, Result.andThen_ok, Sem.run_pure]
    congr 2
    simp)
theorem vl_eqlT_t {a b : α} (hx : evalF f x = .agg (Rep.cells a).toArray) (hy : evalF f y = .agg (Rep.cells b).toArray) (h : a = b) : Val P ⟨some d, .binOp .eql t x y yt, ty, pos, af, gd⟩ f L (.bool true) := by
  rw [← decide_eq_true h]; exact vl_eqlT hx hy
theorem vl_eqlT_f {a b : α} (hx : evalF f x = .agg (Rep.cells a).toArray) (hy : evalF f y = .agg (Rep.cells b).toArray) (h : a ≠ b) : Val P ⟨some d, .binOp .eql t x y yt, ty, pos, af, gd⟩ f L (.bool false) := by
  rw [← decide_eq_false h]; exact vl_eqlT hx hy
theorem vl_neqT_t {a b : α} (hx : evalF f x = .agg (Rep.cells a).toArray) (hy : evalF f y = .agg (Rep.cells b).toArray) (h : a ≠ b) : Val P ⟨some d, .binOp .neq t x y yt, ty, pos, af, gd⟩ f L (.bool true) := by
  rw [← decide_eq_true h]; exact vl_neqT hx hy
theorem vl_neqT_f {a b : α} (hx : evalF f x = .agg (Rep.cells a).toArray) (hy : evalF f y = .agg (Rep.cells b).toArray) (h : a = b) : Val P ⟨some d, .binOp .neq t x y yt, ty, pos, af, gd⟩ f L (.bool false) := by
  rw [← decide_eq_false (show ¬ (a ≠ b) by simpa using h)]; exact vl_neqT hx hy
end
end
end Go.Proofs.Ytkcpgdkchglhhaa
