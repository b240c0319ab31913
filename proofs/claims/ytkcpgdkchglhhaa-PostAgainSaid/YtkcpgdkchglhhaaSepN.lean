/- The walk's steps over memory. No condition. -/
import Derived.Test.YtkcpgdkchglhhaaSepM
namespace Go.Proofs.Ytkcpgdkchglhhaa
open Go.RowKit
set_option linter.unusedSimpArgs false
set_option linter.unusedVariables false
/-- What the types say, as functions. -/
def aggB (P : Program) (t : TypeId) : Option Bool := match P.underlying t with
  | some (.struct _) | some (.array _ _) => some true
  | some _ => some false
  | none => none
def zeroC (P : Program) (t : TypeId) : Option (List Value) := ((P.info? t).bind (·.zero)).map (·.cells.toList)
def fieldOff (P : Program) (s : TypeId) (i : Nat) : Option Nat := match P.underlying s with
  | some (.struct fs) => match fs[i]? with
    | some fd => if P.cellsOf fd.type = 0 then none else some fd.offset
    | none => none
  | _ => none
section
variable {P : Program} (w : World)
theorem run_isAgg {t : TypeId} {b : Bool} (h : aggB P t = some b) : (isAgg t).run P w = .ok b w := by
  unfold aggB at h
  cases hu : P.underlying t with
  | none => rw [hu] at h; cases h
  | some d => rw [hu] at h; cases d <;> simp at h <;> subst h <;> simp [isAgg, run_underlying hu]
theorem run_sizeOf' {t : TypeId} {s : Nat} (h : P.cellsOf t = s) (hs : 0 < s) : (sizeOf t).run P w = .ok s w := by
  unfold Program.cellsOf at h
  cases hi : P.info? t with
  | none => rw [hi] at h; simp at h; omega
  | some i => rw [hi] at h; simp at h; simp [sizeOf, typeInfo, hi, h]
theorem run_zeroValue {t : TypeId} {zs : List Value} (h : zeroC P t = some zs) : ∃ z, (zeroValue t).run P w = .ok z w ∧ z.cells = zs.toArray := by
  unfold zeroC at h
  cases hi : P.info? t with
  | none => rw [hi] at h; simp at h
  | some i =>
    rw [hi] at h
    simp at h
    obtain ⟨z, hz, rfl⟩ := h
    exact ⟨z, by simp [zeroValue, typeInfo, hi, hz], by simp⟩
theorem run_newVar (t : TypeId) (v : Value) : (newVar t v).run P w = .ok ⟨w.heap.size, 0, none⟩ (w.alloc (.cells v.cells t)) := by
  simp [newVar, newRow]
theorem run_loadVar1 {t : TypeId} {a : Addr} {v : Value} (hA : aggB P t = some false) (hc : w.cell? a = some v) : (loadVar t a).run P w = .ok v w := by
  simp [loadVar, run_isAgg w hA, hc]
theorem run_loadVarA {t : TypeId} {a : Addr} {cs : List Value} (hA : aggB P t = some true) (hs : P.cellsOf t = cs.length) (hp : 0 < cs.length) (hc : ∀ j v, cs[j]? = some v → w.cell? (a.add j) = some v) : (loadVar t a).run P w = .ok (.agg cs.toArray) w := by
  simp [loadVar, run_isAgg w hA, run_sizeOf' w hs hp, run_loadCells_list w a cs hc]
theorem run_fieldAt {s : TypeId} {i off : Nat} {a : Addr} (h : fieldOff P s i = some off) : (Instr.fieldAt s (.pointer (some a)) i).run P w = .ok (.pointer (some (a.add off))) w := by
  unfold fieldOff at h
  cases hu : P.underlying s with
  | none => rw [hu] at h; cases h
  | some d =>
    rw [hu] at h
    cases d with
    | struct fs =>
      simp only at h
      cases hf : fs[i]? with
      | none => rw [hf] at h; cases h
      | some fd =>
        rw [hf] at h
        simp only at h
        by_cases hz : P.cellsOf fd.type = 0
        · rw [if_pos hz] at h; cases h
        · rw [if_neg hz] at h
          cases h
          have := run_sizeOf' (P := P) w (t := fd.type) rfl (by omega)
          simp [Instr.fieldAt, run_underlying hu, hf, Instr.sureAddr, fieldPlace, this, hz]
    | _ => cases h
end
section
variable {P : Program} {n : Nat} {ops : Array Oper} {Q : Post} {f : Nat → Value} {L : List Assn} {rest : List Oper} {d : Nat} {ty : TypeId} {pos : String} {af : Array Edge}
theorem st_alloc {e : TypeId} {zs : List Value} (hd : Nat.blt d n = true) (hz : zeroC P e = some zs) (h : ∀ g, ExL P n ops rest Q (upd f d (.pointer (some ⟨g, 0, none⟩))) (Blk g e zs :: L)) :
    ExL P n ops (⟨some d, .alloc e, ty, pos, af, none⟩ :: rest) Q f L := by
  refine ExL.eff rfl hd (R := fun v L' => ∃ g, v = .pointer (some ⟨g, 0, none⟩) ∧ L' = Blk g e zs :: L) (fun F w s => ?_) ?_
  · obtain ⟨z, hr, hc⟩ := run_zeroValue w hz
    refine ⟨_, w.alloc (.cells z.cells e), _, .inl (by simp [execOp, Instr.alloc, hr, run_newVar]), Rest.refl w, Sats.alloc _ s (A := Blk w.heap.size e zs) ⟨(0, 0), fun o _ => by simp, by rw [hc]⟩, w.heap.size, rfl, rfl⟩
  · rintro v L' ⟨g, rfl, rfl⟩
    exact h g
theorem st_box {e : TypeId} {x : Operand} {v : Value} {cs : List Value} (hd : Nat.blt d n = true) (hx : evalF f x = v) (hc : v.cells.toList = cs) (h : ∀ g, ExL P n ops rest Q (upd f d (.pointer (some ⟨g, 0, none⟩))) (Blk g e cs :: L)) :
    ExL P n ops (⟨some d, .box e x, ty, pos, af, none⟩ :: rest) Q f L := by
  refine ExL.eff rfl hd (R := fun v L' => ∃ g, v = .pointer (some ⟨g, 0, none⟩) ∧ L' = Blk g e cs :: L) (fun F w s => ?_) ?_
  · refine ⟨_, w.alloc (.cells v.cells e), _, .inl (by simp [execOp, Instr.box, hx, run_newVar]), Rest.refl w, Sats.alloc _ s (A := Blk w.heap.size e cs) ⟨(0, 0), fun o _ => by simp, by rw [← hc]⟩, w.heap.size, rfl, rfl⟩
  · rintro v L' ⟨g, rfl, rfl⟩
    exact h g
theorem st_load1 (i : Nat) {t bt : TypeId} {x : Operand} {g o : Nat} {cs : List Value} {v : Value} (hd : Nat.blt d n = true) (hx : evalF f x = .pointer (some ⟨g, o, none⟩)) (hi : L[i]? = some (Blk g bt cs)) (hA : aggB P t = some false) (hv : cs[o]? = some v)
    (h : ExL P n ops rest Q (upd f d v) L) : ExL P n ops (⟨some d, .load t x, ty, pos, af, none⟩ :: rest) Q f L :=
  ExL.val rfl rfl hd (fun F w s => by simp [execOp, hx, Instr.loadAt, Instr.sureAddr, run_loadVar1 w hA (blk_cell hi hv s)]) h
theorem take_drop_get {l : List Value} {o m j : Nat} {v : Value} (h : ((l.drop o).take m)[j]? = some v) : l[o + j]? = some v := by
  rw [List.getElem?_take] at h
  split at h
  · rwa [List.getElem?_drop] at h
  · cases h
theorem st_loadA (i : Nat) {t bt : TypeId} {x : Operand} {g o m : Nat} {cs vs : List Value} (hd : Nat.blt d n = true) (hx : evalF f x = .pointer (some ⟨g, o, none⟩)) (hi : L[i]? = some (Blk g bt cs)) (hA : aggB P t = some true) (hm : P.cellsOf t = m) (hp : Nat.blt 0 m = true)
    (hl : Nat.ble (o + m) cs.length = true) (hv : (cs.drop o).take m = vs) (h : ExL P n ops rest Q (upd f d (.agg vs.toArray)) L) : ExL P n ops (⟨some d, .load t x, ty, pos, af, none⟩ :: rest) Q f L := by
  have hp := Nat.le_of_ble_eq_true hp
  have hl := Nat.le_of_ble_eq_true hl
  have hlen : vs.length = m := by rw [← hv]; simp; omega
  refine ExL.val rfl rfl hd (fun F w s => ?_) h
  have := run_loadVarA (P := P) w (t := t) (a := ⟨g, o, none⟩) (cs := vs) hA (by rw [hm, hlen]) (by omega) (fun j u hj => by
    rw [addr_add]
    rw [← hv] at hj
    exact blk_cell hi (take_drop_get hj) s)
  simp [execOp, hx, Instr.loadAt, Instr.sureAddr, this]
theorem st_store1 (i : Nat) {t bt : TypeId} {x y : Operand} {g o : Nat} {cs : List Value} {v : Value} {L' : List Assn} (hx : evalF f x = .pointer (some ⟨g, o, none⟩)) (hy : evalF f y = v) (h1 : v.oneCell' = true) (hi : L[i]? = some (Blk g bt cs)) (hm : P.cellsOf t = 1)
    (ho : Nat.blt o cs.length = true) (hL : L.set i (Blk g bt (cs.set o v)) = L') (h : ExL P n ops rest Q f L') : ExL P n ops (⟨none, .store t x y, ty, pos, af, none⟩ :: rest) Q f L := by
  have ho := Nat.le_of_ble_eq_true ho
  refine ExL.eff rfl rfl (R := fun _ L2 => L2 = L') (fun F w s => ?_) (fun v L2 e => by subst e; exact h)
  have hcell : w.cell? ⟨g, o, none⟩ = some cs[o] := blk_cell hi (List.getElem?_eq_getElem ho) s
  have hf := blk_frozen hi ho s
  have hcs : v.cells = #[v] := by cases v <;> first | rfl | (simp [Value.oneCell'] at h1)
  refine ⟨_, w.setCell ⟨g, o, none⟩ v, _, .inr ⟨?_, rfl⟩, Rest.refl w, ?_, rfl⟩
  · simp [execOp, hx, hy, Instr.storeAt, Instr.sureAddr, storeVar, hcs, run_sizeOf' w hm (by omega), storeCells, run_store P w _ v _ h1, addr_add, hcell, hf]
  · rw [← hL]; exact blk_store v hi ho s
theorem splice_set (cs : List Value) (o : Nat) (v : Value) (vs : List Value) (h : o + (vs.length + 1) ≤ cs.length) :
    (cs.set o v).take (o + 1) ++ vs ++ (cs.set o v).drop (o + 1 + vs.length) = cs.take o ++ (v :: vs) ++ cs.drop (o + (vs.length + 1)) := list_seg_step cs o v vs h
theorem run_storeCells_blk {i g : Nat} {bt : TypeId} {F : Frag} : ∀ (vs : List Value) (j o : Nat) (w : World) (L : List Assn) (cs : List Value), L[i]? = some (Blk g bt cs) → o + j + vs.length ≤ cs.length → (∀ v ∈ vs, v.oneCell' = true) → Sats w L F →
    ∃ w', (storeCells ⟨g, o, none⟩ vs j).run P w = .ok () w' ∧ Rest w w' ∧ Sats w' (L.set i (Blk g bt (cs.take (o + j) ++ vs ++ cs.drop (o + j + vs.length)))) F
  | [], j, o, w, L, cs, hi, hl, h1, s => by
    refine ⟨w, by simp [storeCells], Rest.refl w, ?_⟩
    have : L.set i (Blk g bt (cs.take (o + j) ++ [] ++ cs.drop (o + j + ([] : List Value).length))) = L := by
      simp only [List.append_nil, List.length_nil, Nat.add_zero, List.take_append_drop]
      exact List.ext_getElem? fun k => by
        rw [List.getElem?_set]
        split
        · rename_i hk; subst hk
          rw [hi]
          split
          · rfl
          · rename_i hx; rw [List.getElem?_eq_none (by omega)] at hi; cases hi
        · rfl
    rw [this]; exact s
  | v :: vs, j, o, w, L, cs, hi, hl, h1, s => by
    simp at hl
    have ho : o + j < cs.length := by omega
    have hcell : w.cell? ⟨g, o + j, none⟩ = some cs[o + j] := blk_cell hi (List.getElem?_eq_getElem ho) s
    have hf := blk_frozen hi ho s
    have hs := blk_store v hi ho s
    have hil : i < L.length := (List.getElem?_eq_some_iff.1 hi).1
    obtain ⟨w', hr, hre, hs'⟩ := run_storeCells_blk (i := i) (g := g) (bt := bt) vs (j + 1) o (w.setCell ⟨g, o + j, none⟩ v) (L.set i (Blk g bt (cs.set (o + j) v))) (cs.set (o + j) v) (by simp [hil]) (by simp; omega) (fun u hu => h1 u (List.mem_cons_of_mem _ hu)) hs
    refine ⟨w', ?_, hre, ?_⟩
    · simp [storeCells, addr_add, run_store P w _ v _ (h1 v (List.mem_cons_self ..)), hcell, hf, hr]
    · rw [List.set_set] at hs'
      have e := splice_set cs (o + j) v vs (by omega)
      rw [show o + (j + 1) = o + j + 1 by omega, e] at hs'
      simpa using hs'
theorem st_storeA (i : Nat) {t bt : TypeId} {x y : Operand} {g o : Nat} {cs vs : List Value} {L' : List Assn} (hx : evalF f x = .pointer (some ⟨g, o, none⟩)) (hy : evalF f y = .agg vs.toArray) (h1 : vs.all Value.oneCell' = true) (hi : L[i]? = some (Blk g bt cs)) (hm : P.cellsOf t = vs.length)
    (hp : Nat.blt 0 vs.length = true) (ho : Nat.ble (o + vs.length) cs.length = true) (hL : L.set i (Blk g bt (cs.take o ++ vs ++ cs.drop (o + vs.length))) = L') (h : ExL P n ops rest Q f L') : ExL P n ops (⟨none, .store t x y, ty, pos, af, none⟩ :: rest) Q f L := by
  have ho := Nat.le_of_ble_eq_true ho
  have hp := Nat.le_of_ble_eq_true hp
  refine ExL.eff rfl rfl (R := fun _ L2 => L2 = L') (fun F w s => ?_) (fun v L2 e => by subst e; exact h)
  obtain ⟨w', hr, hre, hs⟩ := run_storeCells_blk (P := P) vs 0 o w L cs hi (by simpa using ho) (by simpa using h1) s
  refine ⟨_, w', _, .inr ⟨?_, rfl⟩, hre, hs, by simpa using hL⟩
  simp [execOp, hx, hy, Instr.storeAt, Instr.sureAddr, storeVar, Value.cells, run_sizeOf' w hm (by omega), hr]
theorem st_field {s : TypeId} {x : Operand} {g o fi off : Nat} (hd : Nat.blt d n = true) (hx : evalF f x = .pointer (some ⟨g, o, none⟩)) (hf : fieldOff P s fi = some off)
    (h : ExL P n ops rest Q (upd f d (.pointer (some ⟨g, o + off, none⟩))) L) : ExL P n ops (⟨some d, .fieldAddr s x fi, ty, pos, af, none⟩ :: rest) Q f L :=
  ExL.val rfl rfl hd (fun F w s => by simp [execOp, hx, run_fieldAt w hf, addr_add]) h
theorem st_nilCheck {x : Operand} {a : Addr} (hd : Nat.blt d n = true) (hx : evalF f x = .pointer (some a)) (h : ExL P n ops rest Q (upd f d (.pointer (some a))) L) : ExL P n ops (⟨some d, .nilCheck x, ty, pos, af, none⟩ :: rest) Q f L :=
  ExL.val rfl rfl hd (fun F w s => by simp [execOp, hx]) h
theorem run_indexAt_arr {w : World} {t e : TypeId} {g o m sz : Nat} {k : IntKind} {j : Int} (hu : P.underlying t = some (.array m e)) (hs : P.cellsOf e = sz) (hp : 0 < sz) (h0 : 0 ≤ j) (h1 : j < m) :
    (Instr.indexAt t (.pointer (some ⟨g, o, none⟩)) (.int k j)).run P w = .ok (.pointer (some ⟨g, o + j.toNat * sz, none⟩)) w := by
  simp [Instr.indexAt, run_underlying hu, asIntOf, Instr.sureAddr, h0, h1, run_sizeOf' w hs hp, addr_add]
theorem st_idxA {t e : TypeId} {x y : Operand} {g o m sz : Nat} {k : IntKind} {j : Int} (hd : Nat.blt d n = true) (hx : evalF f x = .pointer (some ⟨g, o, none⟩)) (hy : evalF f y = .int k j) (hu : P.underlying t = some (.array m e)) (hs : P.cellsOf e = sz) (hp : Nat.blt 0 sz = true)
    (h0 : 0 ≤ j) (h1 : j < (m : Int)) (h : ExL P n ops rest Q (upd f d (.pointer (some ⟨g, o + j.toNat * sz, none⟩))) L) : ExL P n ops (⟨some d, .indexAddr t x y, ty, pos, af, none⟩ :: rest) Q f L :=
  ExL.val rfl rfl hd (fun F w s => by simp [execOp, hx, hy, run_indexAt_arr hu hs (Nat.le_of_ble_eq_true hp) h0 h1]) h
end
end Go.Proofs.Ytkcpgdkchglhhaa
