/- make, copy, tables, arrays read as slices, ways that meet. No condition. -/
import Derived.Test.YtkcpgdkchglhhaaSepC
import Derived.Laws.MakeOwn
namespace Go.Proofs.Ytkcpgdkchglhhaa
open Go.RowKit
set_option linter.unusedSimpArgs false
set_option linter.unusedVariables false
def meet (I : List Value → List Assn → Prop) (ss : List Nat) (Q : Post) : Post
  | .normal, f, L => ∃ L', Sub L' L ∧ I (ss.map f) L'
  | e, f, L => Q e f L
theorem meet_n {I : List Value → List Assn → Prop} {ss : List Nat} {Q : Post} {f : Nat → Value} {L : List Assn} (h : ∃ L', Sub L' L ∧ I (ss.map f) L') : meet I ss Q .normal f L := h
theorem meet_ret {I : List Value → List Assn → Prop} {ss : List Nat} {Q : Post} {f : Nat → Value} {L : List Assn} (h : Q .ret f L) : meet I ss Q .ret f L := h
theorem meet_exit {I : List Value → List Assn → Prop} {ss : List Nat} {Q : Post} {f : Nat → Value} {L : List Assn} {k : Nat} (h : Q (.exit k) f L) : meet I ss Q (.exit k) f L := h
section
variable {P : Program} {n : Nat} {Q : Post} {f : Nat → Value} {L : List Assn}
/-- Behind x the slots ss are in the relation I, with what is owned; every other slot that x writes is anything. -/
theorem Ex.join {x y : Code} (ss : List Nat) (I : List Value → List Assn → Prop) (hx : Ex P n x (meet I ss Q) f L) (hy : ∀ (vs : List Value) (g : Nat → Value) (L' : List Assn), I vs L' → Ex P n y Q (upds (havoc f g (writes x)) ss vs) L') : Ex P n (.seq x y) Q f L := fun D F w0 f0 ws a w H hc => by
  obtain ⟨r, ag, s, hf0⟩ := H
  have back : ∀ (f2 : Nat → Value), (∀ t, ((writes x).any (Nat.beq t)) = false → f2 t = f t) → ∀ t, ws t = false → f2 t = f0 t := by
    intro f2 k t ht
    rw [← hf0 t ht]
    refine k t ?_
    cases hb : (writes x).any (Nat.beq t) with
    | false => rfl
    | true =>
      simp only [List.any_eq_true] at hb
      obtain ⟨d, hd, hdt⟩ := hb
      have := Nat.eq_of_beq_eq_true hdt
      subst this
      rw [hc t (List.mem_append_left _ hd)] at ht
      cases ht
  refine wp_seq (wp_mono (hx D F w0 f (fun t => (writes x).any (Nat.beq t)) a w ⟨r, ag, s, fun _ _ => rfl⟩ (fun d hd => by simp only [List.any_eq_true]; exact ⟨d, hd, by simp⟩)) fun e a w ⟨f', L1, H', q⟩ => ?_)
  have hb := back f' H'.2.2.2
  cases e with
  | normal =>
    obtain ⟨L', hs, hI⟩ := q
    have e : f' = upds (havoc f f' (writes x)) ss (ss.map f') := by
      have : havoc f f' (writes x) = f' := by
        funext t
        unfold havoc
        cases hb : (writes x).any (Nat.beq t) with
        | true => simp only [hb]
        | false => simp only [hb]; exact (H'.2.2.2 t hb).symm
      rw [this, upds_self]
    have h1 := hy _ f' L' hI
    rw [← e] at h1
    exact h1 D F w0 f0 ws a w ⟨H'.1, H'.2.1, hs w F H'.2.2.1, hb⟩ fun d hd => hc d (List.mem_append_right _ hd)
  | _ => exact ⟨f', L1, ⟨H'.1, H'.2.1, H'.2.2.1, hb⟩, q⟩
end
section
variable {P : Program} {n : Nat} {ops : Array Oper} {Q : Post} {f : Nat → Value} {L : List Assn} {o : Oper} {rest : List Oper}
/-- A guard whose own operation was not carried out. -/
theorem ExL.gskipU {j s : Nat} {want : Bool} (hg : o.guard = some (j, want)) (hs : (ops[j]?).bind (·.dst) = some s) (hu : f s = undef) (hd : dstOk n o.dst = true)
    (h : ExL P n ops rest Q (updo f o.dst undef) L) : ExL P n ops (o :: rest) Q f L := by
  intro D F w0 f0 ws a w H hc
  refine wpList_step fun K hK => ?_
  have hw : Region.wanted o (yielded ops a.tmps) = false := by
    rw [H.2.1.yield]
    simp only [Region.wanted, hg, yieldF, hs, hu, undef]
    rfl
  rw [hw]
  have hp := H.puto (Rest.refl w) H.2.2.1 hd (fun t ht => hc t (mem_writesL (t := 0) ht)) undef
  exact hK _ _ (h D F w0 f0 ws _ _ hp fun d hd => hc d (mem_writesL' hd))
theorem mx_gskipU {kd : Nat → Nat} {Lb : List Assn} {Z : (Nat → Value) → List Assn → Prop} {i : Nat} {l : List (Nat × Oper)} {j s : Nat} {want : Bool} (hg : o.guard = some (j, want)) (hs : (ops[j]?).bind (·.dst) = some s) (hu : f s = undef)
    (h : Mix P n ops kd Lb Z l (updo f o.dst undef) L) : Mix P n ops kd Lb Z ((i, o) :: l) f L := fun _ => by
  have hw : wantF ops f o = false := by
    simp only [wantF, Region.wanted, hg, yieldF, hs, hu, undef]
    rfl
  rw [hw]
  exact h
end
/-- What lies in block g, whatever has L. -/
def Tab (L : List Assn) (g : Nat) (cs : List Value) : Prop := ∀ w F, Sats w L F → ∀ j v, cs[j]? = some v → w.cell? ⟨g, j, none⟩ = some v
theorem Tab.sub {L L' : List Assn} {g : Nat} {cs : List Value} (h : Tab L' g cs) (hs : Sub L' L) : Tab L g cs := fun w F s => h w F (hs w F s)
theorem Tab.base {L : List Assn} {W : World} {g : Nat} {cs : List Value} (i : Nat) (hi : L[i]? = some (Base W)) (h : ∀ j v, cs[j]? = some v → W.cell? ⟨g, j, none⟩ = some v) : Tab L g cs := fun w F s j v hv => by
  obtain ⟨x, a, d, s'⟩ := Sats.pick hi s
  have h1 := h j v hv
  have hl := World.block_lt_of_cell? W _ h1
  have h2 := Sats.frame_left s' g (W.heap[g]) (by rw [a g, Array.getElem?_eq_getElem hl])
  rw [← h1]
  exact World.cell?_of_block (w := W) (by rw [h2, Array.getElem?_eq_getElem hl])
/-- Cells as numbers, as texts. -/
def intsOf (k : IntKind) : List Value → Option (List Int)
  | [] => some []
  | .int k' n :: l => match decide (k = k') with
    | true => match intsOf k l with
      | some l' => some (n :: l')
      | none => none
    | false => some []
  | _ => some []
theorem intsOf_eq {k : IntKind} : ∀ {l : List Value} {zs : List Int}, intsOf k l = some zs → l.take zs.length = zs.map (.int k)
  | [], zs, h => by simp [intsOf] at h; subst h; rfl
  | v :: l, zs, h => by
    cases v <;> simp only [intsOf, Option.some.injEq] at h <;> first | (subst h; rfl) | skip
    split at h
    · rename_i h1
      split at h
      · rename_i h2
        cases h
        rw [← of_decide_eq_true h1, List.length_cons, List.take_succ_cons, intsOf_eq h2]; rfl
      · cases h
    · cases h; rfl
def strsOf : List Value → Option (List (List UInt8))
  | [] => some []
  | .string s :: l => match strsOf l with
    | some l' => some (s.data.toList :: l')
    | none => none
  | _ => some []
theorem strsOf_eq : ∀ {l : List Value} {zs : List (List UInt8)}, strsOf l = some zs → l.take zs.length = zs.map (fun s => .string (S s))
  | [], zs, h => by simp [strsOf] at h; subst h; rfl
  | v :: l, zs, h => by
    cases v <;> simp only [strsOf, Option.some.injEq] at h <;> first | (subst h; rfl) | skip
    split at h
    · rename_i h2
      cases h
      rw [List.length_cons, List.take_succ_cons, strsOf_eq h2, List.map_cons, ← S_of]
    · cases h
section
variable {P : Program} {n : Nat} {ops : Array Oper} {Q : Post} {f : Nat → Value} {L : List Assn} {rest : List Oper} {d : Nat} {ty : TypeId} {pos : String} {af : Array Edge} {gd : Option (Nat × Bool)}
/-- A literal place in an array. -/
theorem vl_idxL {t e : TypeId} {x y : Operand} {g o m sz o' : Nat} {k : IntKind} {j : Int} (hx : evalF f x = .pointer (some ⟨g, o, none⟩)) (hy : evalF f y = .int k j) (hu : P.underlying t = some (.array m e)) (hs : P.cellsOf e = sz) (hl : Nat.ble (o + j.toNat * sz) 1000000 = true) (hp : Nat.blt 0 sz = true)
    (h0 : 0 ≤ j) (h1 : j < (m : Int)) (ho : o + j.toNat * sz = o') : Val P ⟨some d, .indexAddr t x y, ty, pos, af, gd⟩ f L (.pointer (some ⟨g, o', none⟩)) := by
  rw [← ho]; exact vl_idxA hx hy hu hs hp h0 h1
theorem get_map_at {α : Type} {cs : List Value} {zs : List α} {o m j : Nat} {φ : α → Value} (dflt : α) (h : (cs.drop o).take m = zs.map φ) (hj : j < zs.length) : cs[o + j]? = some (φ (zs.getD j dflt)) := by
  refine take_drop_get (m := m) (o := o) ?_
  rw [h, List.getElem?_map]
  simp [List.getD, hj]
theorem vl_loadI (i : Nat) {t bt : TypeId} {x : Operand} {g o j : Nat} {cs : List Value} {k : IntKind} {zs : List Int} (hx : evalF f x = .pointer (some ⟨g, o + j * 1, none⟩)) (hi : L[i]? = some (Blk g bt cs)) (ht : P.underlying t = some (.int k)) (hz : intsOf k (cs.drop o) = some zs)
    (hj : j < zs.length) : Val P ⟨some d, .load t x, ty, pos, af, gd⟩ f L (.int k (zs.getD j 0)) :=
  fun F w s => by
    have := blk_cell hi (get_map_at (φ := .int k) 0 (intsOf_eq hz) hj) s
    rw [Nat.mul_one] at hx
    simp [execOp, hx, Instr.loadAt, Instr.sureAddr, run_loadVar1 w (t := t) (show aggB P t = some false by simp [aggB, ht]) this, List.getD_eq_getElem?_getD]
theorem vl_loadTI {t : TypeId} {x : Operand} {g o j : Nat} {cs : List Value} {k : IntKind} {zs : List Int} (hx : evalF f x = .pointer (some ⟨g, o + j * 1, none⟩)) (hT : Tab L g cs) (ht : P.underlying t = some (.int k)) (hz : intsOf k (cs.drop o) = some zs)
    (hj : j < zs.length) : Val P ⟨some d, .load t x, ty, pos, af, gd⟩ f L (.int k (zs.getD j 0)) :=
  fun F w s => by
    have := hT w F s _ _ (get_map_at (φ := .int k) 0 (intsOf_eq hz) hj)
    rw [Nat.mul_one] at hx
    simp [execOp, hx, Instr.loadAt, Instr.sureAddr, run_loadVar1 w (t := t) (show aggB P t = some false by simp [aggB, ht]) this, List.getD_eq_getElem?_getD]
theorem vl_loadT1 {t : TypeId} {x : Operand} {g o : Nat} {cs : List Value} {v : Value} (hx : evalF f x = .pointer (some ⟨g, o, none⟩)) (hT : Tab L g cs) (hA : aggB P t = some false) (hv : cs[o]? = some v) : Val P ⟨some d, .load t x, ty, pos, af, gd⟩ f L v :=
  fun F w s => by simp [execOp, hx, Instr.loadAt, Instr.sureAddr, run_loadVar1 w hA (hT w F s _ _ hv)]
theorem vl_loadX (i : Nat) {t bt : TypeId} {x : Operand} {g o j : Nat} {cs : List Value} {zs : List (List UInt8)} (hx : evalF f x = .pointer (some ⟨g, o + j * 1, none⟩)) (hi : L[i]? = some (Blk g bt cs)) (ht : P.underlying t = some .string) (hz : strsOf (cs.drop o) = some zs)
    (hj : j < zs.length) : Val P ⟨some d, .load t x, ty, pos, af, gd⟩ f L (.string (S (zs.getD j []))) :=
  fun F w s => by
    have := blk_cell hi (get_map_at (φ := fun s => .string (S s)) [] (strsOf_eq hz) hj) s
    rw [Nat.mul_one] at hx
    simp [execOp, hx, Instr.loadAt, Instr.sureAddr, run_loadVar1 w (t := t) (show aggB P t = some false by simp [aggB, ht]) this, List.getD_eq_getElem?_getD]
theorem vl_loadTX {t : TypeId} {x : Operand} {g o j : Nat} {cs : List Value} {zs : List (List UInt8)} (hx : evalF f x = .pointer (some ⟨g, o + j * 1, none⟩)) (hT : Tab L g cs) (ht : P.underlying t = some .string) (hz : strsOf (cs.drop o) = some zs)
    (hj : j < zs.length) : Val P ⟨some d, .load t x, ty, pos, af, gd⟩ f L (.string (S (zs.getD j []))) :=
  fun F w s => by
    have := hT w F s _ _ (get_map_at (φ := fun s => .string (S s)) [] (strsOf_eq hz) hj)
    rw [Nat.mul_one] at hx
    simp [execOp, hx, Instr.loadAt, Instr.sureAddr, run_loadVar1 w (t := t) (show aggB P t = some false by simp [aggB, ht]) this, List.getD_eq_getElem?_getD]
/-- An element of a list that is laid open. -/
theorem vl_loadSWe {α : Type} [Rep α] {v : Value} {xs : List α} {t : TypeId} {x : Operand} {i sz : Nat} {a : α} (hx : evalF f x = elt v (i * sz + 0)) (hA : aggB P t = some true) (hm : P.cellsOf t = sz) (hr : RdT L v xs) (he : xs[i]? = some a) (hsz : Rep.sz α = sz) :
    Val P ⟨some d, .load t x, ty, pos, af, gd⟩ f L (.agg (Rep.cells a).toArray) := by
  obtain ⟨hi, rfl⟩ := List.getElem?_eq_some_iff.1 he
  exact vl_loadSW hx hA hm hr hi hsz
theorem vl_loadS1e {α : Type} [Rep α] {v : Value} {xs : List α} {t : TypeId} {x : Operand} {i sz o : Nat} {u : Value} {a : α} (hx : evalF f x = elt v (i * sz + o)) (hA : aggB P t = some false) (hr : RdT L v xs) (he : xs[i]? = some a) (hsz : Rep.sz α = sz) (hv : (Rep.cells a)[o]? = some u) :
    Val P ⟨some d, .load t x, ty, pos, af, gd⟩ f L u := by
  obtain ⟨hi, rfl⟩ := List.getElem?_eq_some_iff.1 he
  exact vl_loadS1 hx hA hr hi hsz hv
/-- The array that a slice begins with. -/
theorem vl_arrPtr {α : Type} [Rep α] {v : Value} {xs : List α} {t e : TypeId} {x : Operand} {m : Nat} (hx : evalF f x = v) (hr : RdT L v xs) (hu : P.underlying t = some (.array m e)) (hm : m ≤ xs.length) (hp : Nat.blt 0 m = true) :
    Val P ⟨some d, .sliceToArrayPointer t x, ty, pos, af, gd⟩ f L (elt v (0 * Rep.sz α + 0)) := fun F w s => by
  have hp := Nat.le_of_ble_eq_true hp
  obtain ⟨a, c, rfl, _⟩ := some_of_lt (hr w F s) (i := 0) (by omega)
  simp [execOp, hx, Instr.arrayAt, run_underlying hu, elt, show ¬ xs.length < m by omega, Addr.add]
theorem vl_loadArr {α : Type} [Rep α] {v : Value} {xs : List α} {t e : TypeId} {x : Operand} {sz m : Nat} (hx : evalF f x = elt v (0 * sz + 0)) (hu : P.underlying t = some (.array m e)) (hr : RdT L v xs) (hm : m ≤ xs.length) (hp : Nat.blt 0 m = true) (hsz : Rep.sz α = sz) (hs : P.cellsOf t = m * sz) :
    Val P ⟨some d, .load t x, ty, pos, af, gd⟩ f L (.agg (cellsOf (xs.take m)).toArray) := fun F w s => by
  have hp := Nat.le_of_ble_eq_true hp
  obtain ⟨a, c, rfl, hcell⟩ := some_of_lt (hr w F s) (i := 0) (by omega)
  have hl : (cellsOf (xs.take m)).length = m * sz := by rw [cellsOf_len, hsz, List.length_take, Nat.min_eq_left hm]
  have hpos : 0 < m * sz := Nat.mul_pos hp (by rw [← hsz]; exact Rep.pos)
  have := run_loadVarA (P := P) w (t := t) (a := a.add 0) (cs := cellsOf (xs.take m)) (show aggB P t = some true by simp [aggB, hu]) (by rw [hs, hl]) (by rw [hl]; exact hpos) (fun j u hj => by
    rw [addr_add2, Nat.zero_add]
    refine hcell j u ?_
    rw [← cellsOf_take, List.getElem?_take] at hj
    split at hj
    · exact hj
    · cases hj)
  have e0 : (0 * sz + 0) = 0 := by omega
  rw [e0] at hx
  simp [execOp, hx, elt, Instr.loadAt, Instr.sureAddr, this]
theorem rd_blk {α : Type} [Rep α] (i : Nat) {g : Nat} {bt : TypeId} (xs : List α) (hi : L[i]? = some (Blk g bt (cellsOf xs))) {m : Nat} (hm : xs.length = m) (hmx : Nat.ble m 1000000 = true) : RdT L (.slice (some ⟨g, 0, none⟩) m m) xs := fun w F s => by
  subst hm
  have hmx := Nat.le_of_ble_eq_true hmx
  refine ⟨cellsOf_len xs, _, _, rfl, Nat.le_refl _, by unfold maxLen; omega, (fun h => by cases h), fun ad ha j u hu => ?_⟩
  cases ha
  rw [addr_add]
  simpa using blk_cell (o := j) hi hu s
/-- a[:] of an array. -/
theorem vl_slArr {t e : TypeId} {x : Operand} {g m sz : Nat} (hx : evalF f x = .pointer (some ⟨g, 0, none⟩)) (hu : P.underlying t = some (.array m e)) (hs : P.cellsOf e = sz) (hp : Nat.blt 0 sz = true) (hm : Nat.blt 0 m = true) :
    Val P ⟨some d, .slice t x none none none, ty, pos, af, gd⟩ f L (.slice (some ⟨g, 0, none⟩) m m) := fun F w s => by
  have hm := Nat.le_of_ble_eq_true hm
  simp [execOp, hx, Instr.sliceAt, run_underlying hu, Instr.sureAddr, Instr.sliceBounds, run_sizeOf' w hs (Nat.le_of_ble_eq_true hp), show ¬ m = 0 by omega, addr_add]
/-- make([]T, k). -/
theorem st_make {α : Type} [Rep α] (z : α) {t e : TypeId} {x y : Operand} {k k' : IntKind} {m : Int} {sz by_ : Nat} {zs : List Value} (hd : Nat.blt d n = true) (hx : evalF f x = .int k m) (hy : evalF f y = .int k' m) (ht : P.underlying t = some (.slice e)) (hs : P.cellsOf e = sz) (hsz : Rep.sz α = sz) (hby : P.bytesOf e = by_) (hbp : Nat.blt 0 by_ = true)
    (hz : zeroC P e = some zs) (hzs : zs = Rep.cells z) (h0 : 0 ≤ m) (hb : m * by_ ≤ 140737488355328) (h : ∀ v, v.oneCell' = true → ExL P n ops rest Q (upd f d v) (RowT v e (List.replicate m.toNat z) :: L)) :
    ExL P n ops (⟨some d, .makeSlice t x y, ty, pos, af, none⟩ :: rest) Q f L := by
  subst hsz
  have hp : 0 < Rep.sz α := Rep.pos
  have hbp := Nat.le_of_ble_eq_true hbp
  obtain ⟨inf, zv, hinf, hsize, hbytes, hzero, hzc⟩ := info_of_bytes hs hp hby hz
  obtain ⟨m, rfl⟩ := Int.eq_ofNat_of_zero_le h0
  refine ExL.eff rfl hd (R := fun v L' => v.oneCell' = true ∧ L' = RowT v e (List.replicate m z) :: L) (fun F w s => ?_) (fun v L' hv => by obtain ⟨h1, rfl⟩ := hv; exact h v h1)
  have hmb : (m : Int) * 1 ≤ (m : Int) * by_ := Int.mul_le_mul_of_nonneg_left (by omega) (by omega)
  have hr := run_make (P := P) w t e inf zv ht hinf hzero k k' m m h0 (Int.le_refl _) (by rw [hbytes, Int.mul_comm]; omega) (by omega)
  simp only [Int.toNat_natCast] at hr
  refine ⟨.slice (some ⟨w.heap.size, 0, none⟩) m m, w.alloc (.cells (madeCells zv.cells (m * inf.size)) e), _, .inl ?_, Rest.refl w, Sats.alloc (A := RowT (.slice (some ⟨w.heap.size, 0, none⟩) m m) e (List.replicate m z)) _ s ?_, rfl, rfl⟩
  · simp [execOp, hx, hy, hr]
  · refine ⟨cellsOf_len _, .inr ⟨w.heap.size, m, _, by simp, rfl, by simp, by unfold maxLen; omega, by rw [size_madeCells, hsize], ?_⟩⟩
    rw [List.length_replicate]
    have h1 : (madeCells zv.cells (m * inf.size)).toList = cellsOf (List.replicate m z) := by
      have h2 := zeroCells_rep (α := α) (zero := zv.cells) (z := z) (by rw [hzc, ← hzs]) m
      rw [← h2]
      simp only [madeCells, Builtin.zeroCells, hsize]
      rw [hzc]; simp [hzs, Rep.len]
    rw [h1, List.take_of_length_le (by rw [cellsOf_len]; simp)]
end
section
variable {P : Program} {f : Nat → Value} {L : List Assn} {d : Nat} {ty : TypeId} {pos : String} {af : Array Edge} {gd : Option (Nat × Bool)}
theorem vl_quou8 {xt yt : TypeId} {x y : Operand} {a b : Int} (hx : evalF f x = .int .u8 a) (hy : evalF f y = .int .u8 b) (ha : 0 ≤ a) (hb : 0 < b) (h2 : a ≤ 255) :
    Val P ⟨some d, .binOp .quo xt x y yt, ty, pos, af, gd⟩ f L (.int .u8 (a / b)) := by
  have h0 : 0 ≤ a / b := Int.ediv_nonneg ha (by omega)
  have h1 : a / b ≤ a := Int.ediv_le_self b ha
  refine vl_eqv hx hy (run_eqGuard rfl) (fun w => ?_)
  simp [binOp, Op.intDiv, show b ≠ 0 by omega, Int.tdiv_eq_ediv_of_nonneg ha, wrap_u8 h0 (show a / b ≤ 255 by omega)]
theorem vl_addu32 {xt yt : TypeId} {x y : Operand} {a b : Int} (hx : evalF f x = .int .u32 a) (hy : evalF f y = .int .u32 b) (h1 : 0 ≤ a + b) (h2 : a + b ≤ 4294967295) :
    Val P ⟨some d, .binOp .add xt x y yt, ty, pos, af, gd⟩ f L (.int .u32 (a + b)) := by
  have := vl_addw (P := P) (d := d) (ty := ty) (pos := pos) (af := af) (gd := gd) (xt := xt) (yt := yt) (L := L) hx hy
  rwa [wrap_u32 h1 h2] at this
end
section
variable {P : Program} {n : Nat} {ops : Array Oper} {Q : Post} {f : Nat → Value} {L : List Assn} {rest : List Oper} {d : Nat} {ty : TypeId} {pos : String} {af : Array Edge} {gd : Option (Nat × Bool)}
/-- A cell at a place that is no literal, or among cells that are not. -/
theorem st_storeG (i : Nat) {t bt : TypeId} {x y : Operand} {g o : Nat} {cs : List Value} {v : Value} (hx : evalF f x = .pointer (some ⟨g, o, none⟩)) (hi : L[i]? = some (Blk g bt cs)) (hy : evalF f y = v) (h1 : v.oneCell' = true) (hm : P.cellsOf t = 1) (ho : o < cs.length)
    (h : ∀ cs', cs' = cs.set o v → ExL P n ops rest Q f (L.set i (Blk g bt cs'))) : ExL P n ops (⟨none, .store t x y, ty, pos, af, none⟩ :: rest) Q f L :=
  st_store1 i hx hy h1 hi hm (Nat.ble_eq_true_of_le ho) rfl (h _ rfl)
theorem vl_loadWG (i : Nat) {t bt : TypeId} {x : Operand} {g m : Nat} {cs : List Value} (hx : evalF f x = .pointer (some ⟨g, 0, none⟩)) (hi : L[i]? = some (Blk g bt cs)) (hA : aggB P t = some true) (hm : P.cellsOf t = m) (hl : m = cs.length) (hp : Nat.blt 0 m = true) :
    Val P ⟨some d, .load t x, ty, pos, af, gd⟩ f L (.agg cs.toArray) := by
  subst hl; exact vl_loadW i hx hi hA hm hp
end
/-- A type's zero value. -/
class ZRep (P : outParam Program) (e : TypeId) (α : outParam Type) [Rep α] where
  z : α
  eq : zeroC P e = some (Rep.cells z)
  size : P.cellsOf e = Rep.sz α
section
variable {P : Program} {n : Nat} {ops : Array Oper} {Q : Post} {f : Nat → Value} {L : List Assn} {rest : List Oper} {d : Nat} {ty : TypeId} {pos : String} {af : Array Edge} {gd : Option (Nat × Bool)}
variable {α : Type} [Rep α]
theorem st_makeT {t e : TypeId} [Z : ZRep P e α] {x y : Operand} {k k' : IntKind} {m : Int} {by_ : Nat} (hd : Nat.blt d n = true) (hx : evalF f x = .int k m) (hy : evalF f y = .int k' m) (ht : P.underlying t = some (.slice e)) (hby : P.bytesOf e = by_) (hbp : Nat.blt 0 by_ = true)
    (h0 : 0 ≤ m) (hb : m * by_ ≤ 140737488355328) (h : ∀ v, v.oneCell' = true → ExL P n ops rest Q (upd f d v) (RowT v e (List.replicate m.toNat Z.z) :: L)) :
    ExL P n ops (⟨some d, .makeSlice t x y, ty, pos, af, none⟩ :: rest) Q f L := st_make Z.z hd hx hy ht Z.size rfl hby hbp Z.eq rfl h0 hb h
/-- A whole variable is written with a thing. -/
theorem st_storeR (i : Nat) {t bt : TypeId} {x y : Operand} {g m : Nat} {cs : List Value} {a : α} {L' : List Assn} (hx : evalF f x = .pointer (some ⟨g, 0, none⟩)) (hi : L[i]? = some (Blk g bt cs)) (hy : evalF f y = .agg (Rep.cells a).toArray) (hm : P.cellsOf t = m) (hsz : Rep.sz α = m) (ho : cs.length = m)
    (hL : L.set i (Blk g bt (Rep.cells a)) = L') (h : ExL P n ops rest Q f L') : ExL P n ops (⟨none, .store t x y, ty, pos, af, none⟩ :: rest) Q f L := by
  subst hsz
  exact st_storeW_ i hx hi hy (Rep.one a) (by rw [hm, Rep.len]) (by rw [Rep.len]; exact Nat.ble_eq_true_of_le (show 0 + 1 ≤ _ from Rep.pos)) (by rw [Rep.len, ho]; simp) hL h
/-- []T{a}. -/
theorem st_slice1T {t e : TypeId} [Z : ZRep P e α] {y : Operand} {a : α} (hd : Nat.blt d n = true) (hy : evalF f y = .agg (Rep.cells a).toArray) (hu : P.underlying t = some (.slice e)) (hmx : Nat.ble (Rep.sz α) 16777216 = true)
    (h : ∀ g, ExL P n ops rest Q (upd f d (.slice (some ⟨g, 0, none⟩) 1 1)) (RowT (.slice (some ⟨g, 0, none⟩) 1 1) e [a] :: L)) : ExL P n ops (⟨some d, .buildSlice t 1 #[(0, y)], ty, pos, af, none⟩ :: rest) Q f L := by
  have hzl : (Rep.cells Z.z).length = Rep.sz α := Rep.len _
  refine st_sliceN (parts := [(0, y)]) (ps := [(0, Rep.cells a)]) (vs := Rep.cells a) [a] hd hu Z.size (Nat.ble_eq_true_of_le (show 0 + 1 ≤ _ from Rep.pos)) rfl (by rw [Nat.one_mul]; exact hmx) Z.eq hzl ⟨rfl, by rw [hy]; simp [Value.cells], trivial⟩ ?_ (by simp [cellsOf]) rfl rfl h
  have h1 : Nat.beq (Rep.cells a).length (Rep.sz α) = true := by rw [Rep.len]; simp
  have h2 : Nat.ble (0 * Rep.sz α + Rep.sz α) (zerosE (Rep.cells Z.z) 1).length = true := by simp [zerosE, hzl]
  simp only [lay, offE, h1, h2, Bool.and_true]
  have h3 : over (zerosE (Rep.cells Z.z) 1) (0 * Rep.sz α) (Rep.cells a) = Rep.cells a := by
    simp only [over, zerosE, Nat.zero_mul, List.take_zero, List.nil_append, List.append_nil, Nat.zero_add]
    rw [List.drop_eq_nil_of_le (by rw [hzl, Rep.len]; exact Nat.le_refl _), List.append_nil]
  rw [h3]
  exact seqL_some _
end
theorem copy_full {α : Type} {xs ys : List α} (h : ys.length = xs.length) : ys.take xs.length ++ xs.drop (min ys.length xs.length) = ys := by
  rw [← h, List.take_length, Nat.min_self, List.drop_eq_nil_of_le (by omega), List.append_nil]
theorem copy_head {α : Type} {xs ys : List α} (h : ys.length ≤ xs.length) : ys.take xs.length ++ xs.drop (min ys.length xs.length) = ys ++ xs.drop ys.length := by
  rw [List.take_of_length_le h, Nat.min_eq_left h]
theorem Sub.empty {α : Type} [Rep α] (b : Option Addr) (e : TypeId) (L : List Assn) : Sub (RowT (.slice b 0 0) e ([] : List α) :: L) L := fun w F s => Sats.add_empty s (rowT_nil b e)
section
variable {P : Program} {α : Type} [Rep α] {L : List Assn} {F : Frag} {w : World}
/-- copy(v[l:h], u) and copy(v, u): v a row of one's own. -/
theorem row_copy {i : Nat} {v u : Value} {t t2 ty e : TypeId} {xs ys : List α} {sz l h : Nat} (hi : L[i]? = some (RowT v e xs)) (hr : RdT L u ys) (ht : P.underlying t = some (.slice e))
    (hs : P.cellsOf e = sz) (hsz : Rep.sz α = sz) (hlh : l ≤ h) (hh : h ≤ xs.length) (dst : Value) (hd : dst = subs v l h sz ∨ (dst = v ∧ l = 0 ∧ h = xs.length)) (s : Sats w L F) :
    ∃ w', (Builtin.copy_ #[t, t2] ty #[dst, u]).run P w = .ok (.int .i64 (min ys.length (h - l) : Nat)) w' ∧ Rest w w' ∧ Sats w' (L.set i (RowT v e (xs.take l ++ ys.take (h - l) ++ xs.drop (l + min ys.length (h - l))))) F := by
  subst hsz
  have hp : 0 < Rep.sz α := Rep.pos
  obtain ⟨hl, a, cap, rfl, hmc, hcm, han, hcell⟩ := hr w F s
  have hlen : (ys.take (h - l)).length = min ys.length (h - l) := by simp [Nat.min_comm]
  obtain ⟨da, dc, hdst⟩ : ∃ da dc, dst = .slice da (h - l) dc := by
    obtain ⟨_, ⟨_, b, rfl⟩ | ⟨g, c, cur, rfl, _⟩⟩ := row_heap hi s
    · rcases hd with rfl | ⟨rfl, rfl, rfl⟩
      · exact ⟨_, _, rfl⟩
      · refine ⟨b, 0, ?_⟩; congr 1; omega
    · rcases hd with rfl | ⟨rfl, rfl, rfl⟩
      · exact ⟨_, _, rfl⟩
      · exact ⟨_, _, rfl⟩
  by_cases hn : min ys.length (h - l) = 0
  · have he : xs.take l ++ ys.take (h - l) ++ xs.drop (l + min ys.length (h - l)) = xs := by
      rw [List.eq_nil_of_length_eq_zero (hlen.trans hn), hn]; simp
    refine ⟨w, ?_, Rest.refl w, by rw [he, list_set_same hi]; exact s⟩
    rw [hdst]
    have hn' : Nat.min ys.length (h - l) = 0 := hn
    cases a <;> cases da <;> simp [Builtin.copy_, run_underlying ht, Builtin.lenOf, Builtin.firstCells, run_sizeOf' w hs hp, hn', loadCells, loadCellsFrom, storeCells, goInt, hn]
  · cases a with
    | none => have := han rfl; omega
    | some ad =>
      have hcl : (cellsOf (ys.take (h - l))).length = min ys.length (h - l) * Rep.sz α := by rw [cellsOf_len, hlen]
      have hle : l * Rep.sz α + min ys.length (h - l) * Rep.sz α ≤ xs.length * Rep.sz α := by
        rw [← Nat.add_mul]; exact Nat.mul_le_mul_right _ (by omega)
      have hxx : (cellsOf xs).take (l * Rep.sz α) ++ cellsOf (ys.take (h - l)) ++ (cellsOf xs).drop (l * Rep.sz α + (cellsOf (ys.take (h - l))).length) = cellsOf (xs.take l ++ ys.take (h - l) ++ xs.drop (l + min ys.length (h - l))) := by
        rw [hcl, ← Nat.add_mul, cellsOf_take, cellsOf_drop, cellsOf_append, cellsOf_append]
      obtain ⟨g, w', ⟨c, hv⟩, hrun, hre, hs2⟩ := row_write (P := P) (w := w) (o := l * Rep.sz α) (us := cellsOf (ys.take (h - l))) (xs' := xs.take l ++ ys.take (h - l) ++ xs.drop (l + min ys.length (h - l))) hi (by rw [hcl]; exact hle)
        (by rw [hcl]; exact Nat.mul_pos (by omega) hp) (List.all_eq_true.2 (cellsOf_all _)) hxx (by simp; omega) s
      refine ⟨w', ?_, hre, hs2⟩
      have hload := run_loadCells_list (P := P) w ad (cellsOf (ys.take (h - l))) (fun j u hj => by
        refine hcell ad rfl j u ?_
        rw [← cellsOf_take, List.getElem?_take] at hj
        split at hj
        · exact hj
        · cases hj)
      rw [hcl] at hload
      have hcc : xs.length ≤ c := by
        obtain ⟨_, ⟨h0, b, hb⟩ | ⟨g2, c2, cur, hb, _, h1, _⟩⟩ := row_heap hi s
        · omega
        · rw [hv] at hb; cases hb; exact h1
      have hda : da = some ⟨g, l * Rep.sz α, none⟩ := by
        subst hv
        rcases hd with rfl | ⟨rfl, rfl, rfl⟩
        · simp only [subs] at hdst
          rw [if_neg (by omega)] at hdst
          cases hdst
          simp [addr_add]
        · cases hdst; simp
      rw [hdst, hda]
      have hn' : Nat.min ys.length (h - l) = min ys.length (h - l) := rfl
      simp [Builtin.copy_, run_underlying ht, Builtin.lenOf, Builtin.firstCells, run_sizeOf' w hs hp, hn', hload, hrun, goInt]
variable {n : Nat} {ops : Array Oper} {Q : Post} {f : Nat → Value} {rest : List Oper} {dd : Option Nat} {ty : TypeId} {pos : String} {af : Array Edge} {gd : Option (Nat × Bool)}
variable {v : Value} {xs ys : List α}
theorem exlCopy {x : Array Operand} {t : Array TypeId} (h : ExL P n ops (⟨dd, .call ⟨.builtin .copy, x, t⟩, ty, pos, af, gd⟩ :: rest) Q f L) : ExL P n ops (⟨dd, .call ⟨.builtin .copy, x, t⟩, ty, pos, af, gd⟩ :: rest) Q f L := h
/-- copy(v, u). -/
theorem st_copyW (i : Nat) {x y : Operand} {u : Value} {t t2 e : TypeId} {sz : Nat} (hd : dstOk n dd = true) (hx : evalF f x = v) (hi : L[i]? = some (RowT v e xs)) (hy : evalF f y = u) (hr : RdT L u ys) (ht : P.underlying t = some (.slice e)) (hs : P.cellsOf e = sz) (hsz : Rep.sz α = sz)
    (h : ∀ zs, zs = ys.take xs.length ++ xs.drop (min ys.length xs.length) → ExL P n ops rest Q (updo f dd (.int .i64 (min ys.length xs.length : Nat))) (L.set i (RowT v e zs))) : ExL P n ops (⟨dd, .call ⟨.builtin .copy, #[x, y], #[t, t2]⟩, ty, pos, af, none⟩ :: rest) Q f L := by
  refine ExL.eff rfl hd (R := fun r L' => r = .int .i64 (min ys.length xs.length : Nat) ∧ L' = L.set i (RowT v e (ys.take xs.length ++ xs.drop (min ys.length xs.length)))) (fun F w s => ?_) (fun v' L' e => by obtain ⟨rfl, rfl⟩ := e; exact h _ rfl)
  obtain ⟨w', hrun, hre, hsat⟩ := row_copy (P := P) (t2 := t2) (ty := ty) (l := 0) (h := xs.length) hi hr ht hs hsz (Nat.zero_le _) (Nat.le_refl _) v (.inr ⟨rfl, rfl, rfl⟩) s
  simp only [List.take_zero, List.nil_append, Nat.sub_zero, Nat.zero_add] at hsat hrun
  exact ⟨_, w', _, .inl (by simp [execOp, resolve, invoke, builtin, hx, hy, hrun]), hre, hsat, rfl, rfl⟩
/-- copy(v[l:h], u). -/
theorem st_copyS (i : Nat) {x y : Operand} {u : Value} {t t2 e : TypeId} {sz l k : Nat} (hd : dstOk n dd = true) (hx : evalF f x = subs v l k sz) (hi : L[i]? = some (RowT v e xs)) (hy : evalF f y = u) (hr : RdT L u ys) (ht : P.underlying t = some (.slice e)) (hs : P.cellsOf e = sz) (hsz : Rep.sz α = sz) (hlh : l ≤ k) (hh : k ≤ xs.length)
    (h : ∀ zs, zs = xs.take l ++ ys.take (k - l) ++ xs.drop (l + min ys.length (k - l)) → ExL P n ops rest Q (updo f dd (.int .i64 (min ys.length (k - l) : Nat))) (L.set i (RowT v e zs))) : ExL P n ops (⟨dd, .call ⟨.builtin .copy, #[x, y], #[t, t2]⟩, ty, pos, af, none⟩ :: rest) Q f L := by
  refine ExL.eff rfl hd (R := fun r L' => r = .int .i64 (min ys.length (k - l) : Nat) ∧ L' = L.set i (RowT v e (xs.take l ++ ys.take (k - l) ++ xs.drop (l + min ys.length (k - l))))) (fun F w s => ?_) (fun v' L' e => by obtain ⟨rfl, rfl⟩ := e; exact h _ rfl)
  obtain ⟨w', hrun, hre, hsat⟩ := row_copy (P := P) (t2 := t2) (ty := ty) (l := l) (h := k) hi hr ht hs hsz hlh hh _ (.inl rfl) s
  exact ⟨_, w', _, .inl (by simp [execOp, resolve, invoke, builtin, hx, hy, hrun]), hre, hsat, rfl, rfl⟩
end
end Go.Proofs.Ytkcpgdkchglhhaa
