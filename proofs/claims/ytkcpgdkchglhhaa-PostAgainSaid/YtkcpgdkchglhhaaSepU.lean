/- More of rows: rows that are but read, []byte(s), []T{..}, elements written, clear. No condition. -/
import Derived.Test.YtkcpgdkchglhhaaSepS
import Derived.Lib.ConvBytes
namespace Go.Proofs.Ytkcpgdkchglhhaa
open Go.RowKit
set_option linter.unusedSimpArgs false
set_option linter.unusedVariables false
theorem Sats.conv {w : World} {L : List Assn} {F : Frag} {A : Assn} {i : Nat} (hi : L[i]? = some A) (s : Sats w L F) : ∃ h, A h ∧ ∀ A' : Assn, A' h → Sats w (L.set i A') F := by
  obtain ⟨h, a, d, s'⟩ := Sats.pick hi s
  exact ⟨h, a, fun A' a' => Sats.put (List.getElem?_eq_some_iff.1 hi).1 a' d s'⟩
section
variable {α : Type} [Rep α]
/-- v is a slice with a row of its own that is but read. -/
def RoT (v : Value) (xs : List α) : Assn := fun h => ∃ g cap cur t fr, v = .slice (some ⟨g, 0, none⟩) xs.length cap ∧ h = Frag.one g (.cells cur t fr) ∧ xs.length ≤ cap ∧ cap ≤ maxLen ∧ cur.toList.take (xs.length * Rep.sz α) = cellsOf xs
theorem RdT.ro {L : List Assn} {v : Value} {xs : List α} (i : Nat) (hi : L[i]? = some (RoT v xs)) : RdT L v xs := fun w F s => by
  obtain ⟨h, ⟨g, cap, cur, t, fr, rfl, rfl, h1, h2, h3⟩, d, s'⟩ := Sats.pick hi s
  have hg := Sats.frame_left s' g _ (Frag.one_self g _)
  refine ⟨cellsOf_len xs, some ⟨g, 0, none⟩, cap, rfl, h1, h2, (fun h => by cases h), fun ad had j u hj => ?_⟩
  cases had
  rw [addr_add, cell_heap hg]
  rw [← h3, List.getElem?_take] at hj
  split at hj
  · simpa using hj
  · cases hj
theorem RowT.one {w : World} {F : Frag} {L : List Assn} {v : Value} {e : TypeId} {xs : List α} {i : Nat} (hi : L[i]? = some (RowT v e xs)) (s : Sats w L F) : v.oneCell' = true := by
  obtain ⟨_, ⟨_, b, rfl⟩ | ⟨g, c, cur, rfl, _⟩⟩ := row_heap hi s <;> rfl
theorem RdT.one {w : World} {F : Frag} {L : List Assn} {v : Value} {xs : List α} (hr : RdT L v xs) (s : Sats w L F) : v.oneCell' = true := by
  obtain ⟨_, a, c, rfl, _⟩ := hr w F s
  rfl
/-- The first elements of a row, with the row's room. -/
theorem Sub.rowTo {L : List Assn} {v : Value} {e : TypeId} {xs : List α} (i : Nat) (hi : L[i]? = some (RowT v e xs)) {h : Nat} (hk : h ≤ xs.length) {sz : Nat} (hsz : Rep.sz α = sz) : Sub (L.set i (RowT (subs v 0 h sz) e (xs.take h))) L := fun w F s => by
  subst hsz
  obtain ⟨f, ⟨hl, hc⟩, k⟩ := Sats.conv hi s
  refine k _ ⟨cellsOf_len _, ?_⟩
  have hlen : (xs.take h).length = h := by simp; omega
  rcases hc with ⟨h0, ⟨b, rfl⟩, rfl⟩ | ⟨g, cap, cur, rfl, rfl, h1, h2, h3, h4⟩
  · have : h = 0 := by omega
    subst this
    exact .inl ⟨by simp, ⟨b, by simp [subs]⟩, rfl⟩
  · refine .inr ⟨g, cap, cur, by simp only [subs, hlen]; split <;> simp [addr_add], rfl, by omega, h2, h3, ?_⟩
    rw [hlen, ← cellsOf_take, ← h4, List.take_take, Nat.min_eq_left (Nat.mul_le_mul_right _ hk)]
end
/-- Block g is these cells, none of them frozen. -/
def Raw (g : Nat) (t : TypeId) (cs : List Value) : Assn := fun h => h = Frag.one g (.cells cs.toArray t (0, 0))
theorem raw_store {w : World} {L : List Assn} {F : Frag} {i g o : Nat} {t : TypeId} {cs : List Value} (v : Value) (hi : L[i]? = some (Raw g t cs)) (s : Sats w L F) : Sats (w.setCell ⟨g, o, none⟩ v) (L.set i (Raw g t (cs.set o v))) F := by
  obtain ⟨h, rfl, d, s'⟩ := Sats.pick hi s
  have hg := Sats.frame_left s' g _ (Frag.one_self g _)
  refine Sats.rewrite (o' := .cells (cs.set o v).toArray t (0, 0)) (List.getElem?_eq_some_iff.1 hi).1 d s' rfl (fun k hk => ?_) ?_
  · rw [setCell_heap, if_neg hk]
  · rw [setCell_heap, if_pos rfl, hg]; simp
theorem run_storeCells_raw {P : Program} {i g : Nat} {bt : TypeId} {F : Frag} : ∀ (vs : List Value) (j o : Nat) (w : World) (L : List Assn) (cs : List Value), L[i]? = some (Raw g bt cs) → o + j + vs.length ≤ cs.length → (∀ v ∈ vs, v.oneCell' = true) → Sats w L F →
    ∃ w', (storeCells ⟨g, o, none⟩ vs j).run P w = .ok () w' ∧ Rest w w' ∧ Sats w' (L.set i (Raw g bt (cs.take (o + j) ++ vs ++ cs.drop (o + j + vs.length)))) F
  | [], j, o, w, L, cs, hi, hl, h1, s => by
    refine ⟨w, by simp [storeCells], Rest.refl w, ?_⟩
    have : cs.take (o + j) ++ [] ++ cs.drop (o + j + ([] : List Value).length) = cs := by
      simp only [List.append_nil, List.length_nil, Nat.add_zero, List.take_append_drop]
    rw [this, list_set_same hi]; exact s
  | v :: vs, j, o, w, L, cs, hi, hl, h1, s => by
    simp at hl
    have ho : o + j < cs.length := by omega
    have hg : w.heap[g]? = some (.cells cs.toArray bt (0, 0)) := by
      obtain ⟨h, rfl, d, s'⟩ := Sats.pick hi s
      exact Sats.frame_left s' g _ (Frag.one_self g _)
    have hcell : w.cell? ⟨g, o + j, none⟩ = some cs[o + j] := by rw [cell_heap hg]; simp [ho]
    have hf : w.frozen? ⟨g, o + j, none⟩ = false := by rw [frozen_heap hg]; simp
    have hs := raw_store (o := o + j) v hi s
    have hil : i < L.length := (List.getElem?_eq_some_iff.1 hi).1
    obtain ⟨w', hr, hre, hs'⟩ := run_storeCells_raw (P := P) (i := i) (g := g) (bt := bt) vs (j + 1) o (w.setCell ⟨g, o + j, none⟩ v) (L.set i (Raw g bt (cs.set (o + j) v))) (cs.set (o + j) v) (by simp [hil]) (by simp; omega) (fun u hu => h1 u (List.mem_cons_of_mem _ hu)) hs
    refine ⟨w', ?_, hre, ?_⟩
    · simp [storeCells, addr_add, run_store P w _ v _ (h1 v (List.mem_cons_self ..)), hcell, hf, hr]
    · rw [List.set_set] at hs'
      have e := splice_set cs (o + j) v vs (by omega)
      rw [show o + (j + 1) = o + j + 1 by omega, e] at hs'
      simpa using hs'
section
variable {α : Type} [Rep α]
/-- Cells of a row, written. -/
theorem row_write {P : Program} {w : World} {L : List Assn} {F : Frag} {v : Value} {e : TypeId} {xs xs' : List α} {i o : Nat} {us : List Value} (hi : L[i]? = some (RowT v e xs)) (ho : o + us.length ≤ xs.length * Rep.sz α) (hp : 0 < us.length) (h1 : us.all Value.oneCell' = true)
    (hx : (cellsOf xs).take o ++ us ++ (cellsOf xs).drop (o + us.length) = cellsOf xs') (hl : xs'.length = xs.length) (s : Sats w L F) :
    ∃ g w', (∃ c, v = .slice (some ⟨g, 0, none⟩) xs.length c) ∧ (storeCells ⟨g, o, none⟩ us 0).run P w = .ok () w' ∧ Rest w w' ∧ Sats w' (L.set i (RowT v e xs')) F := by
  obtain ⟨f, ⟨hl', hc⟩, k⟩ := Sats.conv hi s
  rcases hc with ⟨h0, _⟩ | ⟨g, cap, cur, rfl, rfl, hk, hm, hz, ht⟩
  · rw [h0] at ho; omega
  · have s1 := k (Raw g e cur.toList) (by simp [Raw])
    have hil : i < L.length := (List.getElem?_eq_some_iff.1 hi).1
    have hcl : xs.length * Rep.sz α ≤ cap * Rep.sz α := Nat.mul_le_mul_right _ hk
    obtain ⟨w', hr, hre, s2⟩ := run_storeCells_raw (P := P) (i := i) (g := g) (bt := e) us 0 o w _ cur.toList (by simp [hil]) (by simp; omega) (by simpa using h1) s1
    refine ⟨g, w', ⟨_, rfl⟩, hr, hre, ?_⟩
    rw [List.set_set] at s2
    obtain ⟨h', rfl, k2⟩ := Sats.conv (i := i) (A := Raw g e _) (by rw [List.getElem?_set_self (by simp [hil])]) s2
    have s3 := k2 (RowT (.slice (some ⟨g, 0, none⟩) xs.length cap) e xs') ⟨cellsOf_len _, .inr ⟨g, cap, _, by rw [hl], rfl, by rw [hl]; exact hk, hm, by simp; omega, by
      rw [hl, ← hx, ← ht]
      simp only [List.take_take, List.drop_take, Nat.add_zero, Nat.min_eq_left (show o ≤ xs.length * Rep.sz α by omega)]
      have hcz : o ≤ cur.size := by omega
      rw [List.take_append, List.take_of_length_le (by simp; omega)]
      congr 2
      simp [Nat.min_eq_left hcz]⟩⟩
    rw [List.set_set] at s3
    exact s3
/-- The zeros of clear. -/
theorem zeroCells_rep {zero : Array Value} {z : α} (hz : zero.toList = Rep.cells z) (m : Nat) : (Builtin.zeroCells zero m).toList = cellsOf (List.replicate m z) := by
  have hp : 0 < Rep.sz α := Rep.pos
  have hs : zero.size = Rep.sz α := by rw [← Array.length_toList, hz, Rep.len]
  refine List.ext_getElem? fun j => ?_
  by_cases hj : j < m * Rep.sz α
  · have hi : j / Rep.sz α < (List.replicate m z).length := by simp; exact Nat.div_lt_of_lt_mul (by rw [Nat.mul_comm]; exact hj)
    have ho : j % Rep.sz α < Rep.sz α := Nat.mod_lt _ hp
    have ej : j = j / Rep.sz α * Rep.sz α + j % Rep.sz α := by rw [Nat.mul_comm]; exact (Nat.div_add_mod _ _).symm
    have e1 := cellsOf_get (xs := List.replicate m z) hi ho
    rw [← ej] at e1
    rw [e1, List.getElem_replicate, ← hz]
    simp [Builtin.zeroCells, hs, hj, Array.getElem?_eq_getElem, ho]
  · rw [List.getElem?_eq_none (by simp [Builtin.zeroCells, hs]; omega), List.getElem?_eq_none (by rw [cellsOf_len]; simp; omega)]
end
section
variable {P : Program} {n : Nat} {ops : Array Oper} {Q : Post} {f : Nat → Value} {L : List Assn} {rest : List Oper} {d : Nat} {ty : TypeId} {pos : String} {af : Array Edge} {gd : Option (Nat × Bool)}
variable {α : Type} [Rep α] {v : Value} {xs ys : List α}
/-- clear(x[l:]). -/
theorem st_clear (i : Nat) {x : Operand} {t e : TypeId} {l k sz : Nat} {zs : List Value} (z : α) (hx : evalF f x = subs v l k sz) (hi : L[i]? = some (RowT v e xs)) (hk : k = xs.length) (hsz : Rep.sz α = sz) (ht : P.underlying t = some (.slice e)) (hz : zeroC P e = some zs) (hzs : Rep.cells z = zs) (hl : l ≤ xs.length)
    (h : ExL P n ops rest Q f (L.set i (RowT v e (xs.take l ++ List.replicate (xs.length - l) z)))) : ExL P n ops (⟨none, .call ⟨.builtin .clear, #[x], #[t]⟩, ty, pos, af, none⟩ :: rest) Q f L := by
  subst hsz; subst hk; subst hzs
  refine ExL.eff rfl rfl (R := fun _ L2 => L2 = L.set i (RowT v e (xs.take l ++ List.replicate (xs.length - l) z))) (fun F w s => ?_) (fun v L2 e => by subst e; exact h)
  obtain ⟨z', hr, hc⟩ := run_zeroValue w hz
  by_cases hlk : l = xs.length
  · subst hlk
    have : xs.take xs.length ++ List.replicate (xs.length - xs.length) z = xs := by simp
    rw [this, list_set_same hi]
    refine ⟨.tuple #[], w, _, .inl ?_, Rest.refl w, s, rfl⟩
    obtain ⟨_, a, c, rfl, _⟩ := (RdT.row i hi) w F s
    by_cases hcc : c = xs.length <;> cases a <;> simp [execOp, hx, resolve, invoke, builtin, Builtin.clear_, subs, run_underlying ht, hcc]
  · have hu : ((Builtin.zeroCells z'.cells (xs.length - l)).toList) = cellsOf (List.replicate (xs.length - l) z) := zeroCells_rep (by rw [hc]) _
    obtain ⟨g, w', ⟨c, rfl⟩, hrun, hre, hs⟩ := row_write (P := P) (w := w) (o := l * Rep.sz α) (us := cellsOf (List.replicate (xs.length - l) z)) (xs' := xs.take l ++ List.replicate (xs.length - l) z) hi (by rw [cellsOf_len, List.length_replicate, ← Nat.add_mul]; exact Nat.mul_le_mul_right _ (by omega)) (by rw [cellsOf_len, List.length_replicate]; exact Nat.mul_pos (by omega) Rep.pos) (by rw [List.all_eq_true]; exact cellsOf_all _) (by
      rw [cellsOf_len, List.length_replicate, ← Nat.add_mul, cellsOf_take, cellsOf_append]
      have : (cellsOf xs).drop ((l + (xs.length - l)) * Rep.sz α) = [] := List.drop_eq_nil_of_le (by rw [cellsOf_len]; exact Nat.mul_le_mul_right _ (by omega))
      rw [this, List.append_nil]) (by simp; omega) s
    refine ⟨.tuple #[], w', _, .inl ?_, hre, hs, rfl⟩
    obtain ⟨_, _, he, hc1, _⟩ := (RdT.row i hi).cap s
    cases he
    obtain ⟨m, hm⟩ : ∃ m, xs.length - l = m + 1 := ⟨xs.length - l - 1, by omega⟩
    rw [← hu, hm] at hrun
    simp [execOp, hx, resolve, invoke, builtin, Builtin.clear_, subs, run_underlying ht, show ¬ c = l by omega, hm, hr, addr_add, hrun]
/-- []byte(s). -/
theorem st_bytes {x : Operand} {src dst e : TypeId} {l : List UInt8} (hd : Nat.blt d n = true) (hx : evalF f x = .string (S l)) (hs : P.underlying src = some .string) (hu : P.underlying dst = some (.slice e)) (he : P.underlying e = some (.int .u8)) (hb : l.length ≤ 140737488355328)
    (h : ∀ v, v.oneCell' = true → ExL P n ops rest Q (upd f d v) (RoT v l :: L)) : ExL P n ops (⟨some d, .convert src dst x, ty, pos, af, none⟩ :: rest) Q f L := by
  refine ExL.eff rfl hd (R := fun v L2 => v.oneCell' = true ∧ L2 = RoT v l :: L) (fun F w s => ?_) (fun v L2 e => by obtain ⟨e1, rfl⟩ := e; exact h v e1)
  have hrun := Lib.run_convert_string_bytes (P := P) w src dst e (S l) hs hu he
  rw [S_size] at hrun
  refine ⟨.slice (some ⟨w.heap.size, 0, none⟩) l.length (grownCap w l.length 0 e), Lib.bytesWorld w e (S l), _, .inl (by simp [execOp, hx, hrun]), ⟨rfl, rfl, rfl⟩, ?_, rfl, rfl⟩
  have hge := grownCap_ge w l.length 0 e
  have hle : grownCap w l.length 0 e ≤ maxLen := grownCap_le_maxLen w l.length 0 e (by unfold maxLen; omega)
  have h1 := Sats.alloc (A := RoT (.slice (some ⟨w.heap.size, 0, none⟩) l.length (grownCap w l.length 0 e)) l) (.cells (Lib.bytesCells w e (S l)) e ((Lib.bytesCells w e (S l)).size, (Lib.bytesCells w e (S l)).size + 1)) s
    ⟨w.heap.size, _, _, _, _, rfl, rfl, hge, hle, by
      have : Rep.sz UInt8 = 1 := rfl
      rw [this, Nat.mul_one, cellsOf_bytes]
      simp [Lib.bytesCells, byteVals]⟩
  refine Sats.world (fun k o ho => ?_) h1
  rw [← ho]
  by_cases hk : k < w.heap.size
  · rw [Lib.bytesWorld_at_old w e (S l) k hk]
    simp [World.alloc, -World.alloc_eq, Array.getElem?_push, Nat.ne_of_lt hk]
  · by_cases hk2 : k = w.heap.size
    · subst hk2
      rw [Lib.bytesWorld_at_new]
      simp [World.alloc, -World.alloc_eq]
    · exfalso
      rw [Array.getElem?_eq_none (by simp [World.alloc, -World.alloc_eq]; omega)] at ho
      cases ho
/-- []byte(x) of a []byte. -/
theorem st_mark (i : Nat) {x : Operand} {t e : TypeId} {g k c : Nat} {l : List UInt8} (hd : Nat.blt d n = true) (hx : evalF f x = .slice (some ⟨g, 0, none⟩) k c) (hi : L[i]? = some (RowT (.slice (some ⟨g, 0, none⟩) k c) e l)) (hk : Nat.blt 0 k = true) (hu : P.underlying t = some (.slice e)) (he : P.underlying e = some (.int .u8))
    (h : ExL P n ops rest Q (upd f d (.slice (some ⟨g, 0, none⟩) k c)) (L.set i (RoT (.slice (some ⟨g, 0, none⟩) k c) l))) : ExL P n ops (⟨some d, .convert t t x, ty, pos, af, none⟩ :: rest) Q f L := by
  have hk := Nat.le_of_ble_eq_true hk
  refine ExL.eff rfl hd (R := fun v L2 => v = .slice (some ⟨g, 0, none⟩) k c ∧ L2 = L.set i (RoT (.slice (some ⟨g, 0, none⟩) k c) l)) (fun F w s => ?_) (fun v L2 e => by obtain ⟨rfl, rfl⟩ := e; exact h)
  obtain ⟨h', ⟨hl, hc⟩, d', s'⟩ := Sats.pick hi s
  rcases hc with ⟨h0, ⟨b, hb⟩, _⟩ | ⟨g2, cap, cur, hv, rfl, h1, h2, h3, h4⟩
  · cases hb; omega
  · cases hv
    have hg := Sats.frame_left s' g _ (Frag.one_self g _)
    refine ⟨.slice (some ⟨g, 0, none⟩) l.length c, w.freeze ⟨g, cur.size, none⟩ 1, _, .inl ?_, ⟨rfl, rfl, rfl⟩, ?_, rfl, rfl⟩
    · simp [execOp, hx, convert, run_underlying hu, run_underlying he, markStringish, World.shape?, hg]
    · refine Sats.rewrite (o' := .cells cur e (cur.size, cur.size + 1)) (List.getElem?_eq_some_iff.1 hi).1 d' s' ⟨g, c, cur, e, _, rfl, rfl, h1, h2, h4⟩ (fun k hk => ?_) ?_
      · simp [World.freeze, Array.getElem?_modify, Ne.symm hk]
      · simp [World.freeze, Array.getElem?_modify, hg]
/-- []T{..}: the cells of its elements. -/
def offE (sz : Nat) (i : Nat) : Option (Nat × Nat) := some (i * sz, sz)
def zerosE (zs : List Value) : Nat → List Value
  | 0 => []
  | m + 1 => zs ++ zerosE zs m
theorem zerosE_eq {zs : List Value} (hp : 0 < zs.length) : ∀ m, ((Array.range (m * zs.length)).map fun j => zs.toArray[j % zs.length]!).toList = zerosE zs m := by
  have key : ∀ m j, (zerosE zs m)[j]? = if j < m * zs.length then some (zs.toArray[j % zs.length]!) else none := by
    intro m
    induction m with
    | zero => intro j; simp [zerosE]
    | succ m ih =>
      intro j
      simp only [zerosE]
      by_cases hj : j < zs.length
      · rw [List.getElem?_append_left hj, if_pos (by rw [Nat.add_mul]; omega), Nat.mod_eq_of_lt hj]
        simp [hj]
      · rw [List.getElem?_append_right (by omega), ih, Nat.add_mul]
        by_cases h2 : j - zs.length < m * zs.length
        · rw [if_pos h2, if_pos (by omega), Nat.mod_eq_sub_mod (a := j) (by omega)]
        · rw [if_neg h2, if_neg (by omega)]
  intro m
  refine List.ext_getElem? fun j => ?_
  rw [key]
  by_cases hj : j < m * zs.length
  · rw [if_pos hj]; simp [hj]
  · rw [if_neg hj]; simp; omega
theorem run_buildSlice {w : World} {t e : TypeId} {sz m : Nat} {zs vs : List Value} {parts : List (Nat × Operand)} {ps : List (Nat × List Value)} (hu : P.underlying t = some (.slice e)) (hs : P.cellsOf e = sz) (hp : Nat.blt 0 sz = true) (hm : Nat.blt 0 m = true) (hmx : Nat.ble (m * sz) 16777216 = true) (hz : zeroC P e = some zs) (hzl : zs.length = sz)
    (he : Evs f parts ps) (hl : ((lay (offE sz) (zerosE zs m) ps).bind seqL) = some vs) : (Instr.buildSlice t m (parts.toArray.map fun (p : Nat × Operand) => (p.1, evalF f p.2))).run P w = .ok (.slice (some ⟨w.heap.size, 0, none⟩) m m) (w.alloc (.cells vs.toArray e)) := by
  have hp := Nat.le_of_ble_eq_true hp
  have hm := Nat.le_of_ble_eq_true hm
  have hmx := Nat.le_of_ble_eq_true hmx
  obtain ⟨z, hr, hc⟩ := run_zeroValue w hz
  have hl' : lay (offE sz) (zerosE zs m) ps = some vs := by
    cases h : lay (offE sz) (zerosE zs m) ps with
    | none => rw [h] at hl; cases hl
    | some z => rw [h] at hl; rw [← seqL_eq hl]
  subst hzl
  have hfill := fill_lay (offE zs.length) (parts.map fun p => (p.1, evalF f p.2)) ((Array.range (m * zs.length)).map fun j => zs.toArray[j % zs.length]!) vs (by rw [zerosE_eq (by omega), evs_map he]; exact hl')
  have hpl : (parts.toArray.map fun (p : Nat × Operand) => (p.1, evalF f p.2)).toList = parts.map fun p => (p.1, evalF f p.2) := by simp
  have hne : ¬ m * zs.length = 0 := by
    have : 0 < m * zs.length := Nat.mul_pos (by omega) (by omega)
    omega
  have hgt : ¬ m * zs.length > 2 ^ 24 := by omega
  have hfill' : Instr.fill (fun i => some (i * zs.length, zs.length)) ((Array.range (m * zs.length)).map fun j => zs.toArray[j % zs.length]!) (parts.map fun p => (p.1, evalF f p.2)) = some vs.toArray := hfill
  simp only [Instr.buildSlice, Sem.run_bind, run_underlying hu, Result.andThen_ok, run_sizeOf' w hs (by omega), if_neg hgt, if_neg hne, hr, Sem.run_pure, hc, hpl, List.size_toArray, hfill']
  simp [newRow]
/-- []T{..}, its elements xs. -/
theorem st_sliceN {t e : TypeId} {sz m : Nat} {zs vs : List Value} {parts : List (Nat × Operand)} {ps : List (Nat × List Value)} (xs : List α) (hd : Nat.blt d n = true) (hu : P.underlying t = some (.slice e)) (hs : P.cellsOf e = sz) (hp : Nat.blt 0 sz = true) (hm : Nat.blt 0 m = true) (hmx : Nat.ble (m * sz) 16777216 = true) (hz : zeroC P e = some zs) (hzl : zs.length = sz)
    (he : Evs f parts ps) (hl : ((lay (offE sz) (zerosE zs m) ps).bind seqL) = some vs) (hx : cellsOf xs = vs) (hxl : xs.length = m) (hsz : Rep.sz α = sz)
    (h : ∀ g, ExL P n ops rest Q (upd f d (.slice (some ⟨g, 0, none⟩) m m)) (RowT (.slice (some ⟨g, 0, none⟩) m m) e xs :: L)) : ExL P n ops (⟨some d, .buildSlice t m parts.toArray, ty, pos, af, none⟩ :: rest) Q f L := by
  subst hx; subst hxl; subst hsz
  refine ExL.eff rfl hd (R := fun v L2 => ∃ g, v = .slice (some ⟨g, 0, none⟩) xs.length xs.length ∧ L2 = RowT (.slice (some ⟨g, 0, none⟩) xs.length xs.length) e xs :: L) (fun F w s => ?_) (fun v L2 e => by obtain ⟨g, rfl, rfl⟩ := e; exact h g)
  have hrun := run_buildSlice (P := P) (w := w) hu hs hp hm hmx hz hzl he hl
  have hmx := Nat.le_of_ble_eq_true hmx
  have hp := Nat.le_of_ble_eq_true hp
  refine ⟨.slice (some ⟨w.heap.size, 0, none⟩) xs.length xs.length, w.alloc (.cells (cellsOf xs).toArray e), _, .inl (by simp only [execOp, Sem.run_bind, hrun, Result.andThen_ok, Sem.run_pure]), Rest.alloc (Rest.refl w) _, Sats.alloc _ s ?_, w.heap.size, rfl, rfl⟩
  refine ⟨cellsOf_len _, .inr ⟨w.heap.size, _, _, rfl, rfl, Nat.le_refl _, ?_, by simp [cellsOf_len], by rw [← cellsOf_len]; simp⟩⟩
  have : xs.length * 1 ≤ xs.length * Rep.sz α := Nat.mul_le_mul_left _ (by omega)
  unfold maxLen
  omega
/-- Bytes, of cells. -/
def bytesL : List Value → Option (List UInt8)
  | [] => some []
  | .int .u8 (.ofNat m) :: l => match Nat.blt m 256, bytesL l with
    | true, some r => some (UInt8.ofNat m :: r)
    | _, _ => none
  | _ => none
theorem bytesL_eq : ∀ {l : List Value} {r : List UInt8}, bytesL l = some r → cellsOf r = l
  | [], r, h => by cases h; rfl
  | .int .u8 (.ofNat m) :: l, r, h => by
    simp only [bytesL] at h
    split at h
    · rename_i r' hb hl
      cases h
      have hb := Nat.le_of_ble_eq_true hb
      have e1 := bytesL_eq hl
      show [Value.int .u8 ((UInt8.ofNat m).toNat : Int)] ++ cellsOf r' = _
      rw [e1]
      have : (UInt8.ofNat m).toNat = m := by simp; omega
      rw [this]; rfl
    · cases h
  | .int .u8 (.negSucc m) :: l, r, h => by simp [bytesL] at h
/-- []byte{..} of constants. -/
theorem st_sliceB {t e : TypeId} {m : Nat} {zs vs : List Value} {parts : List (Nat × Operand)} {ps : List (Nat × List Value)} {xs : List UInt8} (hd : Nat.blt d n = true) (hu : P.underlying t = some (.slice e)) (hs : P.cellsOf e = 1) (hm : Nat.blt 0 m = true) (hmx : Nat.ble (m * 1) 16777216 = true) (hz : zeroC P e = some zs) (hzl : zs.length = 1)
    (he : Evs f parts ps) (hl : ((lay (offE 1) (zerosE zs m) ps).bind seqL) = some vs) (hx : bytesL vs = some xs) (hxl : xs.length = m)
    (h : ∀ g, ExL P n ops rest Q (upd f d (.slice (some ⟨g, 0, none⟩) m m)) (RowT (.slice (some ⟨g, 0, none⟩) m m) e xs :: L)) : ExL P n ops (⟨some d, .buildSlice t m parts.toArray, ty, pos, af, none⟩ :: rest) Q f L :=
  st_sliceN xs hd hu hs rfl hm hmx hz hzl he hl (bytesL_eq hx) hxl rfl h
/-- append, with the one fact of its result. -/
theorem st_app (i : Nat) {x y : Operand} {u : Value} {t e : TypeId} {sz by_ : Nat} {zs : List Value} (hd : Nat.blt d n = true) (hx : evalF f x = v) (hi : L[i]? = some (RowT v e xs)) (hy : evalF f y = u) (hr : RdT L u ys) (ht : P.underlying t = some (.slice e))
    (hs : P.cellsOf e = sz) (hsz : Rep.sz α = sz) (hby : P.bytesOf e = by_) (hbp : Nat.blt 0 by_ = true) (hz : zeroC P e = some zs) (hzl : zs.length = sz) (hb : (xs.length + ys.length) * by_ ≤ 140737488355328)
    (h : ∀ v', v'.oneCell' = true → ExL P n ops rest Q (upd f d v') (L.set i (RowT v' e (xs ++ ys)))) : ExL P n ops (⟨some d, .call ⟨.builtin .append, #[x, y], #[t, t]⟩, ty, pos, af, none⟩ :: rest) Q f L := by
  refine ExL.eff rfl hd (R := fun v' L' => v'.oneCell' = true ∧ L' = L.set i (RowT v' e (xs ++ ys))) (fun F w s => ?_) (fun v' L' e => by obtain ⟨o, rfl⟩ := e; exact h v' o)
  obtain ⟨v', w', hrun, hre, hsat⟩ := row_append (P := P) (ty := ty) hi hr ht hs hsz hby (Nat.le_of_ble_eq_true hbp) hz hzl hb s
  exact ⟨v', w', _, .inl (by simp [execOp, resolve, invoke, builtin, hx, hy, hrun]), hre, hsat, RowT.one (by rw [List.getElem?_set_self (List.getElem?_eq_some_iff.1 hi).1]) hsat, rfl⟩
theorem st_app0 {x y : Operand} {u : Value} {b : Option Addr} {t e : TypeId} {sz by_ : Nat} {zs : List Value} (hd : Nat.blt d n = true) (hx : evalF f x = .slice b 0 0) (hy : evalF f y = u) (hr : RdT L u ys) (ht : P.underlying t = some (.slice e))
    (hs : P.cellsOf e = sz) (hsz : Rep.sz α = sz) (hby : P.bytesOf e = by_) (hbp : Nat.blt 0 by_ = true) (hz : zeroC P e = some zs) (hzl : zs.length = sz) (hb : ys.length * by_ ≤ 140737488355328)
    (h : ∀ v', v'.oneCell' = true → ExL P n ops rest Q (upd f d v') (RowT v' e ys :: L)) : ExL P n ops (⟨some d, .call ⟨.builtin .append, #[x, y], #[t, t]⟩, ty, pos, af, none⟩ :: rest) Q f L := by
  refine ExL.eff rfl hd (R := fun v' L' => v'.oneCell' = true ∧ L' = RowT v' e ys :: L) (fun F w s => ?_) (fun v' L' e => by obtain ⟨o, rfl⟩ := e; exact h v' o)
  have s' : Sats w (RowT (.slice b 0 0) e ([] : List α) :: L) F := Sats.add_empty s (rowT_nil b e)
  obtain ⟨v', w', hrun, hre, hsat⟩ := row_append (P := P) (ty := ty) (i := 0) (L := RowT (.slice b 0 0) e ([] : List α) :: L) (xs := []) rfl (RdT.sub hr (Sub.drop _ (Sub.refl L))) ht hs hsz hby (Nat.le_of_ble_eq_true hbp) hz hzl (by simpa using hb) s'
  exact ⟨v', w', _, .inl (by simp [execOp, resolve, invoke, builtin, hx, hy, hrun]), hre, by simpa using hsat, RowT.one (i := 0) rfl hsat, rfl⟩
end
theorem exlConv {P : Program} {n : Nat} {ops : Array Oper} {Q : Post} {f : Nat → Value} {L : List Assn} {rest : List Oper} {dd : Option Nat} {ty : TypeId} {pos : String} {af : Array Edge} {gd : Option (Nat × Bool)} {t u : TypeId} {x : Operand} (h : ExL P n ops (⟨dd, .convert t u x, ty, pos, af, gd⟩ :: rest) Q f L) : ExL P n ops (⟨dd, .convert t u x, ty, pos, af, gd⟩ :: rest) Q f L := h
theorem RdT.ca {α : Type} [Rep α] {L : List Assn} {v : Value} {xs : List α} (hr : RdT L v xs) (w : World) (F : Frag) (s : Sats w L F) : ∃ a c, v = .slice a xs.length c ∧ (a = none → c = 0 ∧ xs.length = 0) := by
  obtain ⟨_, a, c, rfl, h1, h2, h3, _⟩ := hr w F s
  exact ⟨a, c, rfl, fun h => ⟨h3 h, by have := h3 h; omega⟩⟩
section
variable {P : Program} {f : Nat → Value} {L : List Assn} {d : Nat} {ty : TypeId} {pos : String} {af : Array Edge} {gd : Option (Nat × Bool)} {xt yt e : TypeId} {x y : Operand} {a : Option Addr} {k c k' c' : Nat}
theorem run_nilS {w : World} (hu : P.underlying xt = some (.slice e)) : (Op.equal xt (.slice a k c) (.slice none k' c')).run P w = .ok a.isNone w := by
  show (Op.equalIn (9999 + 1) xt (.slice a k c) (.slice none k' c')).run P w = _
  rw [Op.equalIn]
  cases a <;> simp [run_underlying hu]
theorem vl_nilS {b : Bool} (hx : evalF f x = .slice a k c) (hy : evalF f y = .slice none k' c') (hu : P.underlying xt = some (.slice e)) (hb : a.isNone = b) : Val P ⟨some d, .binOp .eql xt x y yt, ty, pos, af, gd⟩ f L (.bool b) :=
  vl_eqv hx hy (fun w => by simp [eqGuard]) (fun w => by
    simp only [binOp, Sem.run_bind, run_nilS hu, Result.andThen_ok, Sem.run_pure, hb])
theorem vl_nnilS {b : Bool} (hx : evalF f x = .slice a k c) (hy : evalF f y = .slice none k' c') (hu : P.underlying xt = some (.slice e)) (hb : (!a.isNone) = b) : Val P ⟨some d, .binOp .neq xt x y yt, ty, pos, af, gd⟩ f L (.bool b) :=
  vl_eqv hx hy (fun w => by simp [eqGuard]) (fun w => by
    simp only [binOp, Sem.run_bind, run_nilS hu, Result.andThen_ok, Sem.run_pure, hb])
end
theorem subs_one {v : Value} {l h sz : Nat} (hv : v.oneCell' = true) : (subs v l h sz).oneCell' = true := by
  unfold subs
  split
  · rfl
  · first | exact hv | rfl
/-- A slice of bytes that stands in a slice: its header and its bytes. -/
structure Bv where
  v : Value
  one : v.oneCell' = true
  l : List UInt8
instance : Rep Bv := ⟨1, fun b => [b.v], by decide, fun _ => rfl, fun b => by simp [b.one]⟩
theorem decide_nb (b : Bool) : decide ((!b) = b) = false := by cases b <;> rfl
theorem decide_bn (b : Bool) : decide (b = !b) = false := by cases b <;> rfl
/-- L with some of its parts brought to the front. -/
def pull : Nat → List Assn → Option (Assn × List Assn)
  | 0, A :: L => some (A, L)
  | i + 1, A :: L => match pull i L with
    | some (B, L') => some (B, A :: L')
    | none => none
  | _, [] => none
def fronts : List Nat → List Assn → List Assn
  | [], L => L
  | i :: is, L => match pull i (fronts is L) with
    | some (B, L') => B :: L'
    | none => fronts is L
theorem pull_sub : ∀ (i : Nat) {L L' : List Assn} {B : Assn}, pull i L = some (B, L') → Sub (B :: L') L
  | 0, A :: L, _, _, h => by cases h; exact Sub.refl _
  | i + 1, A :: L, L', B, h => by
    simp only [pull] at h
    split at h
    · rename_i B2 L2 he
      cases h
      exact Sub.trans (Sub.front (L := A :: B :: L2) 1 rfl) (Sub.cons A (pull_sub i he))
    · cases h
theorem fronts_sub : ∀ (is : List Nat) (L : List Assn), Sub (fronts is L) L
  | [], L => Sub.refl L
  | i :: is, L => by
    have h := fronts_sub is L
    simp only [fronts]
    split
    · rename_i he
      exact Sub.trans (pull_sub i he) h
    · exact h
/-- A call with some parts brought to the front. -/
theorem st_callIs (is : List Nat) {P : Program} {n : Nat} {ops : Array Oper} {Q : Post} {f : Nat → Value} {L L1 : List Assn} {rest : List Oper} {d : Option Nat} {ty : TypeId} {pos : String} {af : Array Edge} {fn : FuncId} {xs : List Operand} {vs : List Value} {ts : Array TypeId} {R : Value → List Assn → Prop}
    (hd : dstOk n d = true) (hrun : ∀ (xs : Array Value) (w : World), (callFunc fn xs).run P w = .ok (.enter fn xs) w) (hl : fronts is L = L1) (ha : xs.map (evalF f) = vs) (hf : Fn P fn vs.toArray L1 R) (h : ∀ v L', R v L' → ExL P n ops rest Q (updo f d v) L') :
    ExL P n ops (⟨d, .call ⟨.value (.func fn), xs.toArray, ts⟩, ty, pos, af, none⟩ :: rest) Q f L :=
  st_call hd hrun (hf.sub (by subst hl; exact fronts_sub is L)) ha h
/-- As kdOf, and some operations that but read are told as acting ones: they may read what an acting one has made. -/
def kdK (is : List Nat) (ops : Array Oper) (i : Nat) : Nat := match is.any (Nat.beq i) with
  | true => 2
  | false => kdOf ops i
theorem Ex.mixK {P : Program} {n : Nat} {ops : Array Oper} {Q : Post} {f : Nat → Value} {L : List Assn} {id : Nat} (m : Nat) (is : List Nat) (Lb : List Assn) (hm : P.follows .mixedOrders = true) (hok : mixOk n ops (kdK is ops) m = true) (hf : Fac Lb L)
    (h : Mix P n ops (kdK is ops) Lb (fun f L => ExL P n ops (ops.toList.drop m) Q f L) (idx 0 (ops.toList.take m)) f L) : Ex P n (.region id ops true) Q f L :=
  Ex.mix m _ Lb hm hok hf h
theorem Ex.reord (is : List Nat) {P : Program} {n : Nat} {c : Code} {Q : Post} {f : Nat → Value} {L L1 : List Assn} (hl : fronts is L = L1) (h : Ex P n c Q f L1) : Ex P n c Q f L := Ex.sub h (by subst hl; exact fronts_sub is L)
/-- What is known of L as a world has it. -/
theorem ExL.know {P : Program} {n : Nat} {ops : Array Oper} {Q : Post} {f : Nat → Value} {L : List Assn} {l : List Oper} {p : Prop} (hk : ∀ w F, Sats w L F → p) (h : p → ExL P n ops l Q f L) : ExL P n ops l Q f L := fun D F w0 f0 ws a w H hc => h (hk w F H.2.2.1) D F w0 f0 ws a w H hc
theorem Ex.know {P : Program} {n : Nat} {c : Code} {Q : Post} {f : Nat → Value} {L : List Assn} {p : Prop} (hk : ∀ w F, Sats w L F → p) (h : p → Ex P n c Q f L) : Ex P n c Q f L := fun D F w0 f0 ws a w H hc => h (hk w F H.2.2.1) D F w0 f0 ws a w H hc
theorem ExL.sub {P : Program} {n : Nat} {ops : Array Oper} {Q : Post} {f : Nat → Value} {L L' : List Assn} {l : List Oper} (h : ExL P n ops l Q f L') (hs : Sub L' L) : ExL P n ops l Q f L := fun D F w0 f0 ws a w ⟨r, ag, s, k⟩ hc => h D F w0 f0 ws a w ⟨r, ag, hs w F s, k⟩ hc
end Go.Proofs.Ytkcpgdkchglhhaa
