/- append, make, literals of slices. No condition. -/
import Derived.Test.YtkcpgdkchglhhaaSepO
namespace Go.Proofs.Ytkcpgdkchglhhaa
open Go.RowKit
set_option linter.unusedSimpArgs false
set_option linter.unusedVariables false
theorem Sats.replace_new {w : World} {L : List Assn} {F : Frag} {A A' : Assn} {i : Nat} (o : Obj) (hi : L[i]? = some A) (s : Sats w L F) (ha : A' (Frag.one w.heap.size o)) : Sats (w.alloc o) (L.set i A') F := by
  obtain ⟨h, a, d, s'⟩ := Sats.pick hi s
  have s2 := Sats.less s' d
  exact Sats.put (List.getElem?_eq_some_iff.1 hi).1 ha (Sats.disj_new s2 o) (Sats.alloc_add o s2)
theorem list_set_same {α : Type} {l : List α} {i : Nat} {a : α} (h : l[i]? = some a) : l.set i a = l := by
  apply List.ext_getElem?
  intro k
  rw [List.getElem?_set]
  split
  · rename_i hk; subst hk
    rw [h]
    split
    · rfl
    · rename_i hx; rw [List.getElem?_eq_none (by omega)] at h; cases h
  · rfl
/-- Block g, which lies in one part alone, is written anew. -/
theorem Sats.rewrite {w w' : World} {L : List Assn} {F : Frag} {A' : Assn} {i g : Nat} {o o' : Obj} (hi : i < L.length) (hd : (Frag.one g o).disj F) (s : Sats w (L.eraseIdx i) ((Frag.one g o).add F)) (ha : A' (Frag.one g o'))
    (hw : ∀ n, n ≠ g → w'.heap[n]? = w.heap[n]?) (hg : w'.heap[g]? = some o') : Sats w' (L.set i A') F := by
  refine Sats.put hi ha ?_ (Sats.swap (w := w) (h := Frag.one g o) ?_ ?_ ?_ hd s)
  · intro n
    by_cases hn : n = g
    · subst hn
      rcases hd n with x | x
      · rw [Frag.one_self] at x; cases x
      · exact .inr x
    · exact .inl (Frag.one_other _ hn)
  · intro n hn
    by_cases e : n = g
    · subst e; rw [Frag.one_self] at hn; cases hn
    · exact Frag.one_other _ e
  · intro n x hn hx
    have e : n ≠ g := by rintro rfl; rw [Frag.one_self] at hn; cases hn
    rw [hw n e]; exact hx
  · intro n x hx
    by_cases e : n = g
    · subst e; rw [Frag.one_self] at hx; cases hx; exact hg
    · rw [Frag.one_other _ e] at hx; cases hx
theorem setRow_other (w : World) (g : Nat) (c : Array Value) {n : Nat} (h : n ≠ g) : (w.setRow g c).heap[n]? = w.heap[n]? := by
  simp only [World.setRow, Array.getElem?_modify]
  rw [if_neg (fun e => h e.symm)]
theorem info_of_bytes {P : Program} {e : TypeId} {sz by_ : Nat} {zs : List Value} (hs : P.cellsOf e = sz) (hp : 0 < sz) (hb : P.bytesOf e = by_) (hz : zeroC P e = some zs) : ∃ i z, P.info? e = some i ∧ i.size = sz ∧ i.bytes = by_ ∧ i.zero = some z ∧ z.cells = zs.toArray := by
  unfold Program.cellsOf at hs
  unfold Program.bytesOf at hb
  unfold zeroC at hz
  cases hi : P.info? e with
  | none => rw [hi] at hs; simp at hs; omega
  | some i =>
    rw [hi] at hs hb hz
    simp at hs hb hz
    obtain ⟨z, hz, rfl⟩ := hz
    exact ⟨i, z, rfl, hs, hb, hz, by simp⟩
section
variable {P : Program} {α : Type} [Rep α] {L : List Assn} {F : Frag} {w : World}
/-- append(v, u...): v a row of one's own. -/
theorem row_append {i : Nat} {v u : Value} {t ty e : TypeId} {xs ys : List α} {sz by_ : Nat} {zs : List Value} (hi : L[i]? = some (RowT v e xs)) (hr : RdT L u ys) (ht : P.underlying t = some (.slice e))
    (hs : P.cellsOf e = sz) (hsz : Rep.sz α = sz) (hby : P.bytesOf e = by_) (hbp : 0 < by_) (hz : zeroC P e = some zs) (hzl : zs.length = sz) (hb : (xs.length + ys.length) * by_ ≤ 140737488355328) (s : Sats w L F) :
    ∃ v' w', (Builtin.append_ #[t, t] ty #[v, u]).run P w = .ok v' w' ∧ Rest w w' ∧ Sats w' (L.set i (RowT v' e (xs ++ ys))) F := by
  have hp : 0 < sz := by rw [← hsz]; exact Rep.pos
  obtain ⟨inf, z, hinf, hsize, hbytes, hzero, hzc⟩ := info_of_bytes hs hp hby hz
  have hil : i < L.length := (List.getElem?_eq_some_iff.1 hi).1
  have hru := hr w F s
  obtain ⟨hl, a, cap, rfl, hmc, hcm, han, hcell⟩ := hru
  obtain ⟨hv1, hv2⟩ := row_heap hi s
  rw [hsz] at hl hv1 hv2
  have hle : xs.length + ys.length ≤ 140737488355328 := by
    have : (xs.length + ys.length) * 1 ≤ (xs.length + ys.length) * by_ := Nat.mul_le_mul_left _ hbp
    omega
  have hall := cellsOf_all ys
  have hzcs : z.cells.size = sz := by rw [hzc]; simpa using hzl
  by_cases hm : ys.length = 0
  · have hys : ys = [] := List.eq_nil_of_length_eq_zero hm
    subst hys
    refine ⟨v, w, ?_, Rest.refl w, ?_⟩
    · rcases hv2 with ⟨h0, b, rfl⟩ | ⟨g, c2, cur, rfl, hg, hk, hc, hsz2, htk⟩
      · cases b <;> cases a <;> simp [Builtin.append_, run_underlying ht, sizeOf, typeInfo, hinf, Builtin.lenOf, Builtin.firstCells, loadCells, loadCellsFrom, storeCells]
      · cases a <;> simp [Builtin.append_, run_underlying ht, sizeOf, typeInfo, hinf, Builtin.lenOf, Builtin.firstCells, loadCells, loadCellsFrom, storeCells, hk]
    · rw [List.append_nil, list_set_same hi]; exact s
  · cases a with
    | none => exact absurd (han rfl) (by omega)
    | some ad =>
      have hnews := hcell ad rfl
      rw [← hsize] at hl
      have grow : ∀ (k cap0 : Nat) (olds : List Value), k = xs.length → olds = cellsOf xs → cap0 < k + ys.length →
          ∃ w', w' = w.drew.alloc (.cells (olds.toArray ++ (cellsOf ys).toArray ++ Builtin.zeroCells z.cells (grownCap w (k + ys.length) cap0 e - (k + ys.length))) e) ∧
          Rest w w' ∧ Sats w' (L.set i (RowT (.slice (some ⟨w.heap.size, 0, none⟩) (k + ys.length) (grownCap w (k + ys.length) cap0 e)) e (xs ++ ys))) F := by
        intro k cap0 olds hk ho hc
        refine ⟨_, rfl, Rest.refl w, ?_⟩
        have hge := grownCap_ge w (k + ys.length) cap0 e
        have hcm' : grownCap w (k + ys.length) cap0 e ≤ maxLen := grownCap_le_maxLen w (k + ys.length) cap0 e (by unfold maxLen; omega)
        refine Sats.replace_new (w := w.drew) _ hi (Sats.drew s) ?_
        refine ⟨cellsOf_len _, .inr ⟨w.heap.size, _, _, by subst hk; simp, rfl, by simpa [hk] using hge, hcm', ?_, ?_⟩⟩
        · subst ho
          simp only [Array.size_append, List.size_toArray, size_zeroCells, hzcs, cellsOf_len, hsz, ← Nat.add_mul]
          congr 1
          omega
        · subst ho
          simp only [Array.toList_append]
          rw [← cellsOf_append, ← cellsOf_len]
          exact List.take_left
      rcases hv2 with ⟨h0, b, rfl⟩ | ⟨g, c2, cur, rfl, hg, hk, hc, hsz2, htk⟩
      · have hxs : xs = [] := List.eq_nil_of_length_eq_zero h0
        subst hxs
        obtain ⟨w', hw', hre, hsat⟩ := grow 0 0 [] rfl rfl (by omega)
        refine ⟨_, w', ?_, hre, hsat⟩
        have hb' : ys.length * inf.bytes ≤ 140737488355328 := by rw [hbytes]; simpa using hb
        rw [hw']
        cases b with
        | none =>
          have := run_append_nil (P := P) w t ty e inf z ht hinf hzero ad ys.length cap (cellsOf ys) hl hnews (by omega) (by omega) (by omega)
          simpa using this
        | some ba =>
          have := run_append_grow (P := P) w t ty e inf z ht hinf hzero ba 0 0 [] (by simp) (by simp) ad ys.length cap (cellsOf ys) hl hnews (by omega) (by omega) (growslice_fits (by omega) (by simpa using hb'))
          simpa using this
      · by_cases hroom : xs.length + ys.length ≤ c2
        · have hcl : (cellsOf xs).length = xs.length * sz := by rw [cellsOf_len, hsz]
          have hyl : (cellsOf ys).length = ys.length * sz := by rw [cellsOf_len, hsz]
          have hfit : xs.length * sz + (cellsOf ys).length ≤ cur.size := by
            rw [hyl, hsz2, ← Nat.add_mul]; exact Nat.mul_le_mul_right _ hroom
          have hrun := run_append_room (P := P) w t ty e inf ht hinf g xs.length c2 cur hg ad ys.length cap (cellsOf ys) hl hnews hall hroom (by rw [hsize]; exact hfit)
          refine ⟨_, _, hrun, Rest.refl w, ?_⟩
          obtain ⟨h, ⟨hl2, hcc⟩, dd, s'⟩ := Sats.pick hi s
          rcases hcc with ⟨_, ⟨b, hb2⟩, _⟩ | ⟨g2, c3, cur2, hv3, rfl, _⟩
          · simp at hb2
            omega
          · cases hv3
            have hcur : cur2 = cur := by
              have := Sats.frame_left s' g _ (Frag.one_self g _)
              rw [hg] at this
              cases this; rfl
            subst hcur
            rw [hsize] at *
            refine Sats.rewrite (o' := .cells ((cur2.toList.take (xs.length * sz) ++ cellsOf ys ++ cur2.toList.drop (xs.length * sz + (cellsOf ys).length)).toArray) e (0, 0)) hil dd s' ?_ (fun n hn => setRow_other w g _ hn) (setRow_heap w g cur2 _ e (0, 0) hg)
            refine ⟨cellsOf_len _, .inr ⟨g, c2, _, by simp, rfl, by simpa using hroom, hc, ?_, ?_⟩⟩
            · simp; rw [hsz]; omega
            · simp only [htk]
              rw [← cellsOf_append, ← cellsOf_len]
              exact List.take_left
        · obtain ⟨w', hw', hre, hsat⟩ := grow xs.length c2 (cellsOf xs) rfl rfl (by omega)
          refine ⟨_, w', ?_, hre, hsat⟩
          rw [hw']
          have hb' : (xs.length + ys.length) * inf.bytes ≤ 140737488355328 := by rw [hbytes]; exact hb
          have hcl : (cellsOf xs).length = xs.length * inf.size := by rw [cellsOf_len, hsz, hsize]
          exact run_append_grow (P := P) w t ty e inf z ht hinf hzero ⟨g, 0, none⟩ xs.length c2 (cellsOf xs) hcl (fun j u hj => by
            rw [addr_add, cell_heap hg, ← htk] at *
            rw [List.getElem?_take] at hj
            split at hj
            · simpa using hj
            · cases hj) ad ys.length cap (cellsOf ys) hl hnews (by omega) (by omega) (growslice_fits (by omega) hb')
end
theorem Sats.add_empty {w : World} {L : List Assn} {F : Frag} {A : Assn} (s : Sats w L F) (ha : A (fun _ => none)) : Sats w (A :: L) F :=
  ⟨fun _ => none, ha, fun _ => .inl rfl, by
    have : Frag.add (fun _ => none) F = F := by funext n; rfl
    rw [this]; exact s⟩
theorem rowT_nil {α : Type} [Rep α] (b : Option Addr) (e : TypeId) : RowT (.slice b 0 0) e ([] : List α) (fun _ => none) := ⟨by simp [cellsOf], .inl ⟨rfl, ⟨b, rfl⟩, rfl⟩⟩
section
variable {P : Program} {n : Nat} {ops : Array Oper} {Q : Post} {f : Nat → Value} {L : List Assn} {rest : List Oper} {d : Nat} {ty : TypeId} {pos : String} {af : Array Edge}
variable {α : Type} [Rep α] {v : Value} {xs ys : List α}
theorem st_append (i : Nat) {x y : Operand} {u : Value} {t e : TypeId} {sz by_ : Nat} {zs : List Value} (hd : Nat.blt d n = true) (hx : evalF f x = v) (hi : L[i]? = some (RowT v e xs)) (hy : evalF f y = u) (hr : RdT L u ys) (ht : P.underlying t = some (.slice e))
    (hs : P.cellsOf e = sz) (hsz : Rep.sz α = sz) (hby : P.bytesOf e = by_) (hbp : Nat.blt 0 by_ = true) (hz : zeroC P e = some zs) (hzl : zs.length = sz) (hb : (xs.length + ys.length) * by_ ≤ 140737488355328)
    (h : ∀ v', ExL P n ops rest Q (upd f d v') (L.set i (RowT v' e (xs ++ ys)))) : ExL P n ops (⟨some d, .call ⟨.builtin .append, #[x, y], #[t, t]⟩, ty, pos, af, none⟩ :: rest) Q f L := by
  refine ExL.eff rfl hd (R := fun v' L' => L' = L.set i (RowT v' e (xs ++ ys))) (fun F w s => ?_) (fun v' L' e => by subst e; exact h v')
  obtain ⟨v', w', hrun, hre, hsat⟩ := row_append (P := P) (ty := ty) hi hr ht hs hsz hby (Nat.le_of_ble_eq_true hbp) hz hzl hb s
  exact ⟨v', w', _, .inl (by simp [execOp, resolve, invoke, builtin, hx, hy, hrun]), hre, hsat, rfl⟩
/-- append to a slice without elements or room. -/
theorem st_append0 {x y : Operand} {u : Value} {b : Option Addr} {t e : TypeId} {sz by_ : Nat} {zs : List Value} (hd : Nat.blt d n = true) (hx : evalF f x = .slice b 0 0) (hy : evalF f y = u) (hr : RdT L u ys) (ht : P.underlying t = some (.slice e))
    (hs : P.cellsOf e = sz) (hsz : Rep.sz α = sz) (hby : P.bytesOf e = by_) (hbp : Nat.blt 0 by_ = true) (hz : zeroC P e = some zs) (hzl : zs.length = sz) (hb : ys.length * by_ ≤ 140737488355328)
    (h : ∀ v', ExL P n ops rest Q (upd f d v') (RowT v' e ys :: L)) : ExL P n ops (⟨some d, .call ⟨.builtin .append, #[x, y], #[t, t]⟩, ty, pos, af, none⟩ :: rest) Q f L := by
  refine ExL.eff rfl hd (R := fun v' L' => L' = RowT v' e ys :: L) (fun F w s => ?_) (fun v' L' e => by subst e; exact h v')
  have s' : Sats w (RowT (.slice b 0 0) e ([] : List α) :: L) F := Sats.add_empty s (rowT_nil b e)
  obtain ⟨v', w', hrun, hre, hsat⟩ := row_append (P := P) (ty := ty) (i := 0) (L := RowT (.slice b 0 0) e ([] : List α) :: L) (xs := []) rfl (RdT.sub hr (Sub.drop _ (Sub.refl L))) ht hs hsz hby (Nat.le_of_ble_eq_true hbp) hz hzl (by simpa using hb) s'
  exact ⟨v', w', _, .inl (by simp [execOp, resolve, invoke, builtin, hx, hy, hrun]), hre, by simpa using hsat, rfl⟩
/-- []T{}. -/
theorem st_slice0 {t e : TypeId} {sz : Nat} (hd : Nat.blt d n = true) (ht : P.underlying t = some (.slice e)) (hs : P.cellsOf e = sz) (hp : Nat.blt 0 sz = true)
    (h : ∀ g, ExL P n ops rest Q (upd f d (.slice (some ⟨g, 0, none⟩) 0 0)) L) : ExL P n ops (⟨some d, .buildSlice t 0 #[], ty, pos, af, none⟩ :: rest) Q f L := by
  refine ExL.eff rfl hd (R := fun v L' => ∃ g, v = .slice (some ⟨g, 0, none⟩) 0 0 ∧ L' = L) (fun F w s => ?_) ?_
  · refine ⟨_, w.alloc (.cells #[] e), _, .inl ?_, Rest.refl w, Sats.alloc_drop _ s, w.heap.size, rfl, rfl⟩
    simp [execOp, Instr.buildSlice, run_underlying ht, run_sizeOf' w hs (Nat.le_of_ble_eq_true hp), Instr.fill, newRow, Array.range_zero']
  · rintro v L' ⟨g, rfl, rfl⟩
    exact h g
end
end Go.Proofs.Ytkcpgdkchglhhaa
