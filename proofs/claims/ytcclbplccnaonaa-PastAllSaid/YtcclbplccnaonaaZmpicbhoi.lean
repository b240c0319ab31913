/- Several texts, one behind the other; each says in its head what it proves. No condition. -/
import Derived.Test.YtcclbplccnaonaaZkbdnacgf
import Derived.Test.YtcclbplccnaonaaZfeodhdok
import Derived.Test.YtcclbplccnaonaaChecked
import Derived.Test.YtcclbplccnaonaaZibdcggfj
import Derived.Test.YtcclbplccnaonaaZbjcafbdh
/- Many parts of memory as one; one of them in focus; fields in the midst of a block. No condition. -/
namespace Go.Proofs.Ytcclbplccnaonaa
open Go.RowKit
set_option linter.unusedSimpArgs false
set_option linter.unusedVariables false
/-- All of these, each in a part of its own. -/
def Star : List Assn → Assn
  | [], _ => True
  | A :: As, h => ∃ h1 h2 : Frag, h = h1.add h2 ∧ h1.disj h2 ∧ A h1 ∧ Star As h2
theorem frag_assoc {a b c : Frag} : (a.add b).add c = a.add (b.add c) := by
  funext n
  unfold Frag.add
  cases a n <;> rfl
theorem Star.open1 {A : Assn} {As : List Assn} (L : List Assn) : Sub (A :: Star As :: L) (Star (A :: As) :: L) := fun w F ⟨h, ⟨h1, h2, he, hd, a, rs⟩, d, s⟩ => by
  subst he
  have d1 : h1.disj F := fun n => by
    rcases d n with x | x
    · left
      unfold Frag.add at x
      cases hh : h1 n with
      | none => rfl
      | some o => rw [hh] at x; cases x
    · exact .inr x
  have d2 : h2.disj F := fun n => by
    rcases d n with x | x
    · rcases hd n with y | y
      · left
        unfold Frag.add at x
        rw [y] at x
        exact x
      · exact .inl y
    · exact .inr x
  refine ⟨h1, a, d1, h2, rs, ?_, ?_⟩
  · rw [Frag.disj_add]; exact ⟨Frag.disj_symm hd, d2⟩
  · rw [← Frag.add_left_comm hd, ← frag_assoc]; exact s
theorem Star.close1 {A : Assn} {As : List Assn} (L : List Assn) : Sub (Star (A :: As) :: L) (A :: Star As :: L) := fun w F ⟨h1, a, d, h2, rs, d2, s⟩ => by
  rw [Frag.disj_add] at d2
  refine ⟨h1.add h2, ⟨h1, h2, rfl, Frag.disj_symm d2.1, a, rs⟩, ?_, ?_⟩
  · intro n
    rcases d n with x | x
    · rcases d2.2 n with y | y
      · left; unfold Frag.add; rw [x]; exact y
      · exact .inr y
    · exact .inr x
  · rw [frag_assoc, Frag.add_left_comm (Frag.disj_symm d2.1)]; exact s
theorem Star.nil (L : List Assn) : Sub (Star [] :: L) L := fun w F s => by
  refine ⟨fun _ => none, trivial, fun n => Or.inl rfl, ?_⟩
  have : Frag.add (fun _ => none) F = F := by funext n; rfl
  rw [this]; exact s
/-- One of them in front. -/
theorem Star.focus : ∀ {As : List Assn} {i : Nat} {A : Assn} (L : List Assn), As[i]? = some A → Sub (A :: Star (As.eraseIdx i) :: L) (Star As :: L)
  | [], _, _, _, h => by simp at h
  | B :: As, 0, A, L, h => by
    simp at h; subst h; exact Star.open1 L
  | B :: As, i + 1, A, L, h => by
    simp at h
    have h1 := Star.focus (As := As) (i := i) (A := A) L h
    refine Sub.trans ?_ (Star.open1 L)
    refine Sub.trans ?_ (Sub.cons B h1)
    refine Sub.trans (Sub.cons A (Star.close1 (A := B) (As := As.eraseIdx i) L)) ?_
    exact Sub.front (L := B :: A :: Star (As.eraseIdx i) :: L) 1 rfl
theorem Star.unfocus : ∀ {As : List Assn} {i : Nat} (A : Assn) (L : List Assn), i < As.length → Sub (Star (As.set i A) :: L) (A :: Star (As.eraseIdx i) :: L)
  | [], _, _, _, h => by simp at h
  | B :: As, 0, A, L, h => Star.close1 L
  | B :: As, i + 1, A, L, h => by
    have h1 := Star.unfocus (As := As) (i := i) A L (by simpa using h)
    refine Sub.trans (Star.close1 (A := B) (As := As.set i A) L) ?_
    refine Sub.trans (Sub.cons B h1) ?_
    refine Sub.trans (Sub.front (L := A :: B :: Star (As.eraseIdx i) :: L) 1 rfl) ?_
    exact Sub.cons A (Star.open1 (A := B) (As := As.eraseIdx i) L)
theorem Star.last {As : List Assn} (A : Assn) : ∀ (L : List Assn), Sub (Star (As ++ [A]) :: L) (A :: Star As :: L) := by
  induction As with
  | nil => exact fun L => Star.close1 L
  | cons B As ih =>
    intro L
    refine Sub.trans (Star.close1 (A := B) (As := As ++ [A]) L) ?_
    refine Sub.trans (Sub.cons B (ih L)) ?_
    refine Sub.trans (Sub.front (L := A :: B :: Star As :: L) 1 rfl) ?_
    exact Sub.cons A (Star.open1 L)
/-- Two as one. -/
def Two (A B : Assn) : Assn := Star [A, B]
theorem Two.opn (A B : Assn) (L : List Assn) : Sub (A :: B :: L) (Two A B :: L) :=
  Sub.trans (Sub.cons A (Sub.trans (Sub.cons B (Sub.drop _ (Sub.refl L))) (Star.open1 (A := B) (As := []) L))) (Star.open1 (A := A) (As := [B]) L)
theorem Two.cls (A B : Assn) (L : List Assn) : Sub (Two A B :: L) (A :: B :: L) :=
  Sub.trans (Star.close1 (A := A) (As := [B]) L) (Sub.cons A (Sub.trans (Star.close1 (A := B) (As := []) L) (Sub.cons B (Star.nil L))))
/-- A pointer as a thing of a slice. -/
structure Ptr where
  g : Nat
deriving DecidableEq
instance : Rep Ptr := ⟨1, fun p => [.pointer (some ⟨p.g, 0, none⟩)], by decide, fun _ => rfl, fun _ => rfl⟩
section
variable {P : Program} {n : Nat} {ops : Array Oper} {Q : Post} {f : Nat → Value} {L : List Assn} {rest : List Oper} {d : Nat} {ty : TypeId} {pos : String} {af : Array Edge} {gd : Option (Nat × Bool)}
variable {α : Type} [Rep α] {xs : List α}
theorem mid_get {pre post : List Value} {j q : Nat} (hj : j < xs.length) (hq : q < Rep.sz α) : (pre ++ cellsOf xs ++ post)[pre.length + j * Rep.sz α + q]? = (Rep.cells (xs[j]'hj))[q]? := by
  have hl := cellsOf_len xs
  have hb : j * Rep.sz α + q < xs.length * Rep.sz α := by
    have : (j + 1) * Rep.sz α ≤ xs.length * Rep.sz α := Nat.mul_le_mul_right _ (by omega)
    rw [Nat.succ_mul] at this
    omega
  rw [List.append_assoc, List.getElem?_append_right (by omega), show pre.length + j * Rep.sz α + q - pre.length = j * Rep.sz α + q by omega, List.getElem?_append_left (by rw [hl]; exact hb)]
  have := cellsOf_get1 hj
  rw [← this, List.getElem?_take, if_pos hq, List.getElem?_drop]
/-- A thing in the midst of a block, whole. -/
theorem vl_loadMA (i : Nat) {t bt : TypeId} {x : Operand} {g j o sz : Nat} {cs pre post : List Value} (xs : List α) (hx : evalF f x = .pointer (some ⟨g, o + j * sz, none⟩)) (hi : L[i]? = some (Blk g bt cs)) (he : cs = pre ++ cellsOf xs ++ post) (ho : pre.length = o) (hA : aggB P t = some true) (hm : P.cellsOf t = sz) (hsz : Rep.sz α = sz) (hj : j < xs.length) :
    Val P ⟨some d, .load t x, ty, pos, af, gd⟩ f L (.agg (Rep.cells (xs[j]'hj)).toArray) := fun F w s => by
  subst he; subst ho; subst hsz
  have := run_loadVarA (P := P) w (t := t) (a := ⟨g, pre.length + j * Rep.sz α, none⟩) (cs := Rep.cells (xs[j]'hj)) hA (by rw [hm, Rep.len]) (by rw [Rep.len]; exact Rep.pos) (fun k u hk => by
    rw [addr_add]
    have hk2 : k < Rep.sz α := by have := (List.getElem?_eq_some_iff.1 hk).1; rwa [Rep.len] at this
    exact blk_cell hi (by rw [mid_get hj hk2]; exact hk) s)
  simp [execOp, hx, Instr.loadAt, Instr.sureAddr, this]
/-- One cell of it. -/
theorem vl_loadM1 (i : Nat) {t bt : TypeId} {x : Operand} {g j o q sz : Nat} {cs pre post : List Value} {v : Value} (xs : List α) (hx : evalF f x = .pointer (some ⟨g, o + j * sz + q, none⟩)) (hi : L[i]? = some (Blk g bt cs)) (he : cs = pre ++ cellsOf xs ++ post) (ho : pre.length = o) (hA : aggB P t = some false) (hsz : Rep.sz α = sz) (hj : j < xs.length) (hq : q < sz) (hv : (Rep.cells (xs[j]'hj))[q]? = some v) :
    Val P ⟨some d, .load t x, ty, pos, af, gd⟩ f L v := fun F w s => by
  subst he; subst ho; subst hsz
  have := blk_cell hi (o := pre.length + j * Rep.sz α + q) (v := v) (by rw [mid_get hj hq]; exact hv) s
  simp [execOp, hx, Instr.loadAt, Instr.sureAddr, run_loadVar1 w hA this]
theorem mid_set {pre post : List Value} {j : Nat} (hj : j < xs.length) (a : α) : (pre ++ cellsOf xs ++ post).take (pre.length + j * Rep.sz α) ++ Rep.cells a ++ (pre ++ cellsOf xs ++ post).drop (pre.length + j * Rep.sz α + Rep.sz α) = pre ++ cellsOf (xs.set j a) ++ post := by
  have hl := cellsOf_len xs
  have hb : j * Rep.sz α + Rep.sz α ≤ xs.length * Rep.sz α := by
    have : (j + 1) * Rep.sz α ≤ xs.length * Rep.sz α := Nat.mul_le_mul_right _ (by omega)
    rwa [Nat.succ_mul] at this
  rw [← cellsOf_setA hj a, List.append_assoc pre, List.take_append, List.drop_append, List.take_of_length_le (show pre.length ≤ pre.length + j * Rep.sz α by omega), List.drop_eq_nil_of_le (show pre.length ≤ pre.length + j * Rep.sz α + Rep.sz α by omega)]
  rw [show pre.length + j * Rep.sz α - pre.length = j * Rep.sz α by omega, show pre.length + j * Rep.sz α + Rep.sz α - pre.length = j * Rep.sz α + Rep.sz α by omega, List.take_append_of_le_length (by omega), List.drop_append_of_le_length (by omega)]
  simp [List.append_assoc]
theorem st_storeMA (i : Nat) {t bt : TypeId} {x y : Operand} {g j o sz : Nat} {cs pre post : List Value} (xs : List α) {a : α} {L' : List Assn} (hx : evalF f x = .pointer (some ⟨g, o + j * sz, none⟩)) (hi : L[i]? = some (Blk g bt cs)) (he : cs = pre ++ cellsOf xs ++ post) (ho : pre.length = o) (hy : evalF f y = .agg (Rep.cells a).toArray) (hm : P.cellsOf t = sz) (hsz : Rep.sz α = sz) (hj : j < xs.length)
    (hL : L.set i (Blk g bt (pre ++ cellsOf (xs.set j a) ++ post)) = L') (h : ExL P n ops rest Q f L') : ExL P n ops (⟨none, .store t x y, ty, pos, af, none⟩ :: rest) Q f L := by
  subst he; subst ho; subst hsz
  refine st_storeA i hx hy (Rep.one a) hi (by rw [hm, Rep.len]) (by rw [Rep.len]; exact Nat.ble_eq_true_of_le (show 0 + 1 ≤ _ from Rep.pos)) (by
    rw [Rep.len]
    have hl := cellsOf_len xs
    have hb : (j + 1) * Rep.sz α ≤ xs.length * Rep.sz α := Nat.mul_le_mul_right _ (by omega)
    rw [Nat.succ_mul] at hb
    exact Nat.ble_eq_true_of_le (by simp only [List.length_append]; omega)) ?_ h
  rw [Rep.len, mid_set hj a, hL]
/-- a[:] of an array in the midst of a block. -/
theorem vl_slArrO {t e : TypeId} {x : Operand} {g o m sz : Nat} (hx : evalF f x = .pointer (some ⟨g, o, none⟩)) (hu : P.underlying t = some (.array m e)) (hs : P.cellsOf e = sz) (hp : Nat.blt 0 sz = true) (hm : Nat.blt 0 m = true) :
    Val P ⟨some d, .slice t x none none none, ty, pos, af, gd⟩ f L (.slice (some ⟨g, o, none⟩) m m) := fun F w s => by
  have hm := Nat.le_of_ble_eq_true hm
  simp [execOp, hx, Instr.sliceAt, run_underlying hu, Instr.sureAddr, Instr.sliceBounds, run_sizeOf' w hs (Nat.le_of_ble_eq_true hp), show ¬ m = 0 by omega, addr_add]
theorem mid_over {pre post : List Value} {ys : List α} (hy : ys.length ≤ xs.length) : (pre ++ cellsOf xs ++ post).take pre.length ++ cellsOf ys ++ (pre ++ cellsOf xs ++ post).drop (pre.length + (cellsOf ys).length) = pre ++ cellsOf (ys ++ xs.drop ys.length) ++ post := by
  have hl := cellsOf_len xs
  have hl2 := cellsOf_len ys
  have hb : ys.length * Rep.sz α ≤ xs.length * Rep.sz α := Nat.mul_le_mul_right _ hy
  rw [cellsOf_append, ← cellsOf_drop, List.append_assoc pre, List.take_left, List.drop_append, List.drop_eq_nil_of_le (show pre.length ≤ pre.length + (cellsOf ys).length by omega), show pre.length + (cellsOf ys).length - pre.length = (cellsOf ys).length by omega, List.drop_append_of_le_length (by omega), hl2]
  simp [List.append_assoc]
/-- copy(a[:], u), where a stands in the midst of a block. -/
theorem st_copyM (i : Nat) {dd : Option Nat} {x y : Operand} {u : Value} {t t2 e bt : TypeId} {sz g o m c : Nat} {cs pre post : List Value} (xs ys : List α) (hd : dstOk n dd = true) (hx : evalF f x = .slice (some ⟨g, o, none⟩) m c) (hi : L[i]? = some (Blk g bt cs)) (he : cs = pre ++ cellsOf xs ++ post) (ho : pre.length = o) (hm : xs.length = m) (hy : evalF f y = u) (hr : RdT L u ys) (hle : ys.length ≤ m)
    (ht : P.underlying t = some (.slice e)) (hs : P.cellsOf e = sz) (hsz : Rep.sz α = sz)
    (h : ExL P n ops rest Q (updo f dd (.int .i64 (ys.length : Nat))) (L.set i (Blk g bt (pre ++ cellsOf (ys ++ xs.drop ys.length) ++ post)))) : ExL P n ops (⟨dd, .call ⟨.builtin .copy, #[x, y], #[t, t2]⟩, ty, pos, af, none⟩ :: rest) Q f L := by
  subst he; subst ho; subst hm; subst hsz; subst hy
  have hp : 0 < Rep.sz α := Rep.pos
  refine ExL.eff rfl hd (R := fun r L' => r = .int .i64 (ys.length : Nat) ∧ L' = L.set i (Blk g bt (pre ++ cellsOf (ys ++ xs.drop ys.length) ++ post))) (fun F w s => ?_) (fun v' L' e => by obtain ⟨rfl, rfl⟩ := e; exact h)
  obtain ⟨hl, a, cap, hev, hmc, hcm, han, hcell⟩ := hr w F s
  have hmin : Nat.min ys.length xs.length = ys.length := Nat.min_eq_left hle
  have hmin2 : min ys.length xs.length = ys.length := Nat.min_eq_left hle
  cases a with
  | none =>
    have h0 : ys.length = 0 := by have := han rfl; omega
    have e0 : ys = [] := List.eq_nil_of_length_eq_zero h0
    refine ⟨_, w, _, .inl ?_, Rest.refl w, ?_, rfl, rfl⟩
    · simp [execOp, resolve, invoke, builtin, hx, hev, Builtin.copy_, run_underlying ht, Builtin.lenOf, Builtin.firstCells, run_sizeOf' w hs hp, h0, loadCells, loadCellsFrom, storeCells, goInt]
    · subst e0
      have e1 : pre ++ cellsOf ([] ++ xs.drop ([] : List α).length) ++ post = pre ++ cellsOf xs ++ post := by simp
      rw [e1, list_set_same hi]; exact s
  | some ad =>
    have hload := run_loadCells_list (P := P) w ad (cellsOf ys) (fun j u hj => hcell ad rfl j u hj)
    rw [cellsOf_len] at hload
    have hle2 : ys.length * Rep.sz α ≤ xs.length * Rep.sz α := Nat.mul_le_mul_right _ hle
    obtain ⟨w', hrun, hre, hs2⟩ := run_storeCells_blk (P := P) (cellsOf ys) 0 pre.length w L (pre ++ cellsOf xs ++ post) hi (by simp only [List.length_append, cellsOf_len]; omega) (fun v hv => cellsOf_all _ v hv) s
    rw [Nat.add_zero, mid_over hle] at hs2
    refine ⟨_, w', _, .inl ?_, hre, hs2, rfl, rfl⟩
    simp [execOp, resolve, invoke, builtin, hx, hev, Builtin.copy_, run_underlying ht, Builtin.lenOf, Builtin.firstCells, run_sizeOf' w hs hp, hmin, hmin2, hload, hrun, goInt]
/-- A thing of a row of one's own is written, whole. -/
theorem st_storeRA (r : Nat) {t e : TypeId} {x y : Operand} {v : Value} {i sz : Nat} {a : α} {L' : List Assn} (hx : evalF f x = elt v (i * sz + 0)) (hy : evalF f y = .agg (Rep.cells a).toArray) (hi : L[r]? = some (RowT v e xs)) (hm : P.cellsOf t = sz) (hsz : Rep.sz α = sz) (hj : i < xs.length)
    (hL : L.set r (RowT v e (xs.set i a)) = L') (h : ExL P n ops rest Q f L') : ExL P n ops (⟨none, .store t x y, ty, pos, af, none⟩ :: rest) Q f L := by
  subst hsz; subst hL
  have hp : 0 < Rep.sz α := Rep.pos
  refine ExL.eff rfl rfl (R := fun _ L2 => L2 = L.set r (RowT v e (xs.set i a))) (fun F w s => ?_) (fun v L2 e => by subst e; exact h)
  have hb : (i + 1) * Rep.sz α ≤ xs.length * Rep.sz α := Nat.mul_le_mul_right _ (by omega)
  rw [Nat.succ_mul] at hb
  obtain ⟨g, w', ⟨c, hv⟩, hrun, hre, hs2⟩ := row_write (P := P) (w := w) (o := i * Rep.sz α) (us := Rep.cells a) (xs' := xs.set i a) hi (by rw [Rep.len]; omega) (by rw [Rep.len]; exact hp) (Rep.one a) (by rw [Rep.len]; exact cellsOf_setA hj a) (by simp) s
  refine ⟨_, w', _, .inr ⟨?_, rfl⟩, hre, hs2, rfl⟩
  subst hv
  simp only [elt, addr_add, Nat.zero_add, Nat.add_zero] at hx
  simp [execOp, hx, hy, Instr.storeAt, Instr.sureAddr, storeVar, Value.cells, run_sizeOf' w hm hp, hrun, Rep.len]
end
end Go.Proofs.Ytcclbplccnaonaa
/- Rows whose length is known without memory; one cell of a row is written. No condition. -/
namespace Go.Proofs.Ytcclbplccnaonaa
open Go.RowKit
set_option linter.unusedSimpArgs false
set_option linter.unusedVariables false
/-- v is a slice of n elements that has memory: what needs none. -/
def Spt (v : Value) (n : Nat) : Prop := ∃ a c, v = .slice (some a) n c
section
variable {P : Program} {n : Nat} {ops : Array Oper} {Q : Post} {f : Nat → Value} {L : List Assn} {d : Nat} {ty : TypeId} {pos : String} {af : Array Edge} {gd : Option (Nat × Bool)} {v : Value} {q : Nat}
theorem vl_idxK {t e : TypeId} {x y : Operand} {k : IntKind} {j : Int} {sz : Nat} (hx : evalF f x = v) (hy : evalF f y = .int k j) (hu : P.underlying t = some (.slice e)) (hs : P.cellsOf e = sz) (hp : Nat.blt 0 sz = true) (hc : Spt v q) (h0 : 0 ≤ j) (h1 : j < (q : Int)) :
    Val P ⟨some d, .indexAddr t x y, ty, pos, af, gd⟩ f L (elt v (j.toNat * sz + 0)) := fun F w s => by
  obtain ⟨m, rfl⟩ := Int.eq_ofNat_of_zero_le h0
  obtain ⟨a, c, rfl⟩ := hc
  have hp := Nat.le_of_ble_eq_true hp
  have h1' : m < q := by omega
  have h1'' : (m : Int) < (q : Int) := by omega
  simp [execOp, hx, hy, Instr.indexAt, run_underlying hu, asIntOf, h1', run_sizeOf' w hs hp, elt]
theorem vl_fieldK {s : TypeId} {x : Operand} {b o fi off : Nat} (hx : evalF f x = elt v (b + o)) (hc : Spt v q) (hf : fieldOff P s fi = some off) : Val P ⟨some d, .fieldAddr s x fi, ty, pos, af, gd⟩ f L (elt v (b + (o + off))) :=
  vl_fieldE hx (by obtain ⟨a, c, h⟩ := hc; exact ⟨a, q, c, h⟩) hf
theorem vl_idxEK {t e : TypeId} {x y : Operand} {k : IntKind} {i sz o m es : Nat} {j : Int} (hx : evalF f x = elt v (i * sz + o)) (hy : evalF f y = .int k j) (hu : P.underlying t = some (.array m e)) (hs : P.cellsOf e = es) (hp : Nat.blt 0 es = true) (hc : Spt v q)
    (h0 : 0 ≤ j) (h1 : j < (m : Int)) : Val P ⟨some d, .indexAddr t x y, ty, pos, af, gd⟩ f L (elt v (i * sz + (o + j.toNat * es))) := fun F w s => by
  obtain ⟨a, c, rfl⟩ := hc
  simp [execOp, hx, hy, elt, Instr.indexAt, run_underlying hu, asIntOf, Instr.sureAddr, h0, h1, run_sizeOf' w hs (Nat.le_of_ble_eq_true hp), addr_add2, Nat.add_assoc]
theorem know_spt {α : Type} [Rep α] {c : Code} {xs : List α} (hr : RdT L v xs) (h0 : 0 < xs.length) (h : Spt v xs.length → Ex P n c Q f L) : Ex P n c Q f L := Ex.know (fun w F s => by
  obtain ⟨hl, a, c, e, hk, hm, hn, hcell⟩ := hr w F s
  cases a with
  | none => have := hn rfl; omega
  | some ad => exact ⟨ad, c, e⟩) h
end
section
variable {P : Program} {n : Nat} {ops : Array Oper} {Q : Post} {f : Nat → Value} {L : List Assn} {rest : List Oper} {ty : TypeId} {pos : String} {af : Array Edge} {α : Type} [Rep α] {xs : List α}
/-- One cell of a thing of a row of one's own is written. -/
theorem st_storeR1 (r : Nat) {t e : TypeId} {x y : Operand} {v u : Value} {i o sz : Nat} {a : α} {L' : List Assn} (hx : evalF f x = elt v (i * sz + o)) (hy : evalF f y = u) (h1 : u.oneCell' = true) (hi : L[r]? = some (RowT v e xs)) (hm : P.cellsOf t = 1) (hsz : Rep.sz α = sz) (hj : i < xs.length) (ho : o < sz)
    (ha : Rep.cells a = (Rep.cells (xs[i]'hj)).set o u) (hL : L.set r (RowT v e (xs.set i a)) = L') (h : ExL P n ops rest Q f L') : ExL P n ops (⟨none, .store t x y, ty, pos, af, none⟩ :: rest) Q f L := by
  subst hsz; subst hL; subst hy
  refine ExL.eff rfl rfl (R := fun _ L2 => L2 = L.set r (RowT v e (xs.set i a))) (fun F w s => ?_) (fun v L2 e => by subst e; exact h)
  have hb : (i + 1) * Rep.sz α ≤ xs.length * Rep.sz α := Nat.mul_le_mul_right _ (by omega)
  rw [Nat.succ_mul] at hb
  have hcl := cellsOf_len xs
  obtain ⟨g, w', ⟨c, hv⟩, hrun, hre, hs2⟩ := row_write (P := P) (w := w) (o := i * Rep.sz α + o) (us := [evalF f y]) (xs' := xs.set i a) hi (by simp only [List.length_cons, List.length_nil]; omega) (by simp) (by simp [h1]) (by
    rw [← cellsOf_set (u := evalF f y) hj ho ha, List.set_eq_take_append_cons_drop, if_pos (by omega)]
    simp) (by simp) s
  refine ⟨_, w', _, .inr ⟨?_, rfl⟩, hre, hs2, rfl⟩
  subst hv
  simp only [elt, addr_add, Nat.zero_add] at hx
  have hc1 := run_sizeOf' w hm (Nat.succ_pos 0)
  have hcs : (evalF f y).cells = #[evalF f y] := by
    revert h1
    generalize evalF f y = u
    intro h1
    cases u <;> simp_all [Value.oneCell', Value.cells]
  simp [execOp, hx, Instr.storeAt, Instr.sureAddr, storeVar, hcs, hc1, hrun]
end
end Go.Proofs.Ytcclbplccnaonaa
/- A region that draws its order, in which some read ahead of whatever acts. No condition. -/
namespace Go.Proofs.Ytcclbplccnaonaa
open Go.RowKit
set_option linter.unusedSimpArgs false
set_option linter.unusedVariables false
def earlyOk (ops : Array Oper) (kd : Nat → Nat) (m : Nat) : Bool := (List.range m).all fun j => !loudK (kd j) || (List.range m).all fun k => !Nat.beq (kd k) 1 || Nat.blt k j
/-- As Mix; an operation of kind 1 reads ahead of whatever acts, and may read Le. -/
def MixE (P : Program) (n : Nat) (ops : Array Oper) (kd : Nat → Nat) (Lb Le : List Assn) (Z : (Nat → Value) → List Assn → Prop) : List (Nat × Oper) → (Nat → Value) → List Assn → Prop
  | [], f, L => (∃ D F w a, Agree D n a f ∧ Sats w L F) → ∃ L2, Sub L2 L ∧ Z f L2
  | (i, o) :: l, f, L => (∃ D F w a, Agree D n a f ∧ Sats w L F) →
    if wantF ops f o = true then
      if kd i = 0 then ∃ v, Val P o f Lb v ∧ MixE P n ops kd Lb Le Z l (updo f o.dst v) L
      else if kd i = 1 then ∃ v, Val P o f Le v ∧ MixE P n ops kd Lb Le Z l (updo f o.dst v) L
      else ∀ F w0 w, Rest w0 w → Sats w L F → LW P o f w fun v w' => ∃ L2, Fac Lb L2 ∧ Rest w0 w' ∧ Sats w' L2 F ∧ MixE P n ops kd Lb Le Z l (updo f o.dst v) L2
    else MixE P n ops kd Lb Le Z l (updo f o.dst undef) L
section
variable {P : Program} {n : Nat} {ops : Array Oper} {kd : Nat → Nat} {Lb Le : List Assn} {m : Nat} {Z : (Nat → Value) → List Assn → Prop}
theorem MixE.sub : ∀ {l : List (Nat × Oper)} {f : Nat → Value} {L1 L2 : List Assn}, Sub L2 L1 → MixE P n ops kd Lb Le Z l f L2 → MixE P n ops kd Lb Le Z l f L1
  | [], f, L1, L2, hs, h => fun ⟨D, F, w, a, ag, s⟩ => let ⟨L3, h1, h2⟩ := h ⟨D, F, w, a, ag, hs w F s⟩; ⟨L3, Sub.trans h1 hs, h2⟩
  | (i, o) :: l, f, L1, L2, hs, h => by
    rintro ⟨D, F, w, a, ag, s⟩
    have hb := h ⟨D, F, w, a, ag, hs w F s⟩
    split
    · rename_i hw
      rw [if_pos hw] at hb
      split
      · rename_i hk; rw [if_pos hk] at hb
        obtain ⟨v, hv, hm⟩ := hb
        exact ⟨v, hv, MixE.sub hs hm⟩
      · rename_i hk; rw [if_neg hk] at hb
        split
        · rename_i hk2; rw [if_pos hk2] at hb
          obtain ⟨v, hv, hm⟩ := hb
          exact ⟨v, hv, MixE.sub hs hm⟩
        · rename_i hk2; rw [if_neg hk2] at hb
          exact fun F w0 w r s => hb F w0 w r (hs w F s)
    · rename_i hw
      rw [if_neg hw] at hb
      exact MixE.sub hs hb
theorem MixE.tail {x : Nat × Oper} {l l' : List (Nat × Oper)} (hl : ∀ f L, Fac Lb L → MixE P n ops kd Lb Le Z l f L → MixE P n ops kd Lb Le Z l' f L) {f : Nat → Value} {L : List Assn} (hf : Fac Lb L) (h : MixE P n ops kd Lb Le Z (x :: l) f L) : MixE P n ops kd Lb Le Z (x :: l') f L := by
  obtain ⟨i, o⟩ := x
  intro W
  have hb := h W
  split
  · rename_i hw
    rw [if_pos hw] at hb
    split
    · rename_i hk; rw [if_pos hk] at hb
      obtain ⟨v, hv, hm⟩ := hb
      exact ⟨v, hv, hl _ _ hf hm⟩
    · rename_i hk; rw [if_neg hk] at hb
      split
      · rename_i hk2; rw [if_pos hk2] at hb
        obtain ⟨v, hv, hm⟩ := hb
        exact ⟨v, hv, hl _ _ hf hm⟩
      · rename_i hk2; rw [if_neg hk2] at hb
        exact fun F w0 w r s => (hb F w0 w r s).mono fun v w' ⟨L2, h1, h2, h3, h4⟩ => ⟨L2, h1, h2, h3, hl _ _ h1 h4⟩
  · rename_i hw
    rw [if_neg hw] at hb
    exact hl _ _ hf hb
theorem MixE.wit : ∀ {l : List (Nat × Oper)} {f : Nat → Value} {L : List Assn}, ((∃ D F w a, Agree D n a f ∧ Sats w L F) → MixE P n ops kd Lb Le Z l f L) → MixE P n ops kd Lb Le Z l f L
  | [], _, _, h => fun W => h W W
  | (_, _) :: _, _, _, h => fun W => h W W
/-- Two that may change places. -/
theorem MixE.swap {k i : Nat} {p o : Oper} {l : List (Nat × Oper)} (hsp : ∀ cs b, p.op ≠ .select cs b) (hso : ∀ cs b, o.op ≠ .select cs b) (hap : p.apart ops o = true) (hdp : dstOk n p.dst = true) (hdo : dstOk n o.dst = true)
    (hkk : kd i = 0 ∨ kd k = 0 ∨ (kd i = 1 ∧ kd k = 1)) {f : Nat → Value} {L : List Assn} (hf : Fac Lb L) (h : MixE P n ops kd Lb Le Z ((k, p) :: (i, o) :: l) f L) : MixE P n ops kd Lb Le Z ((i, o) :: (k, p) :: l) f L := by
  obtain ⟨a1, a2, a3⟩ := Oper.apart_spec hap
  have ep : ∀ f v, execOp (evalF (updo f o.dst v)) p = execOp (evalF f) p := fun f v => exec_updo f p hsp o.dst v a3
  have eo : ∀ f v, execOp (evalF (updo f p.dst v)) o = execOp (evalF f) o := fun f v => exec_updo f o hso p.dst v a1
  have wp : ∀ f v, wantF ops (updo f o.dst v) p = wantF ops f p := fun f v => want_updo f p o.dst v a3
  have wo : ∀ f v, wantF ops (updo f p.dst v) o = wantF ops f o := fun f v => want_updo f o p.dst v a1
  have cm : ∀ f v u, updo (updo f p.dst v) o.dst u = updo (updo f o.dst u) p.dst v := fun f v u => updo_comm f v u a2
  rintro ⟨D, F, w, a, ag, s⟩
  have hb := h ⟨D, F, w, a, ag, s⟩
  obtain ⟨H, sH, _⟩ := hf w F s
  -- o, with whatever p left in its slot, where p leaves the memory as it was
  have go : ∀ (vp : Value) (hback : ∀ u L, MixE P n ops kd Lb Le Z l (updo (updo f p.dst vp) o.dst u) L → MixE P n ops kd Lb Le Z ((k, p) :: l) (updo f o.dst u) L),
      MixE P n ops kd Lb Le Z ((i, o) :: l) (updo f p.dst vp) L → (if wantF ops f o = true then
        if kd i = 0 then ∃ v, Val P o f Lb v ∧ MixE P n ops kd Lb Le Z ((k, p) :: l) (updo f o.dst v) L
        else if kd i = 1 then ∃ v, Val P o f Le v ∧ MixE P n ops kd Lb Le Z ((k, p) :: l) (updo f o.dst v) L
        else ∀ F w0 w, Rest w0 w → Sats w L F → LW P o f w fun v w' => ∃ L2, Fac Lb L2 ∧ Rest w0 w' ∧ Sats w' L2 F ∧ MixE P n ops kd Lb Le Z ((k, p) :: l) (updo f o.dst v) L2
      else MixE P n ops kd Lb Le Z ((k, p) :: l) (updo f o.dst undef) L) := fun vp hback hm => by
    obtain ⟨a', ag'⟩ := agree_updo ag hdp vp
    have hb2 := hm ⟨D, F, w, a', ag', s⟩
    rw [wo] at hb2
    split
    · rename_i hw
      rw [if_pos hw] at hb2
      split
      · rename_i hk; rw [if_pos hk] at hb2
        obtain ⟨v, hv, hm⟩ := hb2
        exact ⟨v, (Val.congr (eo _ _)).1 hv, hback _ _ hm⟩
      · rename_i hk; rw [if_neg hk] at hb2
        split
        · rename_i hk2; rw [if_pos hk2] at hb2
          obtain ⟨v, hv, hm⟩ := hb2
          exact ⟨v, (Val.congr (eo _ _)).1 hv, hback _ _ hm⟩
        · rename_i hk2; rw [if_neg hk2] at hb2
          intro F' w0 w' r s'
          have := hb2 F' w0 w' r s'
          rw [LW.congr (eo _ _)] at this
          exact this.mono fun v w' ⟨L2, h1, h2, h3, h4⟩ => ⟨L2, h1, h2, h3, hback _ _ h4⟩
    · rename_i hw
      rw [if_neg hw] at hb2
      exact hback _ _ hb2
  by_cases hwp : wantF ops f p = true
  case neg =>
    rw [if_neg hwp] at hb
    exact go undef (fun u L hm _ => by rw [wp, if_neg hwp, ← cm]; exact hm) hb
  case pos =>
    rw [if_pos hwp] at hb
    by_cases k0 : kd k = 0
    · rw [if_pos k0] at hb
      obtain ⟨vp, hvp, hb⟩ := hb
      exact go vp (fun u L hm _ => by
        rw [wp, if_pos hwp, if_pos k0]
        exact ⟨vp, (Val.congr (ep _ _)).2 hvp, by rw [← cm]; exact hm⟩) hb
    · rw [if_neg k0] at hb
      by_cases k1 : kd k = 1
      · rw [if_pos k1] at hb
        obtain ⟨vp, hvp, hb⟩ := hb
        exact go vp (fun u L hm _ => by
          rw [wp, if_pos hwp, if_neg k0, if_pos k1]
          exact ⟨vp, (Val.congr (ep _ _)).2 hvp, by rw [← cm]; exact hm⟩) hb
      · -- p acts: o only reads what stays
        have hk : kd i = 0 := by rcases hkk with x | x | x <;> first | exact x | exact absurd x k0 | exact absurd x.2 k1
        rw [if_neg k1] at hb
        obtain ⟨u1, w1, L1, hf1, hr1, s1, hm1⟩ := (hb F w w (Rest.refl w) s).some
        obtain ⟨a', ag'⟩ := agree_updo ag hdp u1
        have hb2 := hm1 ⟨D, F, w1, a', ag', s1⟩
        rw [wo] at hb2
        split
        · rename_i hw
          rw [if_pos hw, if_pos hk] at hb2
          try rw [if_pos hk]
          obtain ⟨v, hv, _⟩ := hb2
          have hv' := (Val.congr (eo _ _)).1 hv
          refine ⟨v, hv', fun W => ?_⟩
          rw [wp, if_pos hwp, if_neg k0, if_neg k1]
          intro F' w0' w' r' s'
          rw [LW.congr (ep _ _)]
          refine (hb F' w0' w' r' s').mono fun u w2 ⟨L2, h1, h2, h3, h4⟩ => ⟨L2, h1, h2, h3, MixE.wit ?_⟩
          rintro ⟨D', F2, w3, a2, ag2, s2⟩
          obtain ⟨a3, ag3⟩ := agree_updo ag hdp u
          have hb3 := h4 ⟨D, F2, w3, a3, ag3, s2⟩
          rw [wo, if_pos hw, if_pos hk] at hb3
          obtain ⟨v2, hv2, hm⟩ := hb3
          obtain ⟨H', sH', _⟩ := h1 w3 F2 s2
          rw [← cm, Val.unique hv' ((Val.congr (eo _ _)).1 hv2) sH']
          exact hm
        · rename_i hw
          rw [if_neg hw] at hb2
          intro W
          rw [wp, if_pos hwp, if_neg k0, if_neg k1]
          intro F' w0' w' r' s'
          rw [LW.congr (ep _ _)]
          refine (hb F' w0' w' r' s').mono fun u w2 ⟨L2, h1, h2, h3, h4⟩ => ⟨L2, h1, h2, h3, MixE.wit ?_⟩
          rintro ⟨D', F2, w3, a2, ag2, s2⟩
          obtain ⟨a3, ag3⟩ := agree_updo ag hdp u
          have hb3 := h4 ⟨D, F2, w3, a3, ag3, s2⟩
          rw [wo, if_neg hw] at hb3
          rw [← cm]
          exact hb3
theorem MixE.front {i : Nat} {o : Oper} {l2 : List (Nat × Oper)} (hso : ∀ cs b, o.op ≠ .select cs b) (hdo : dstOk n o.dst = true) : ∀ (l1 : List (Nat × Oper)), (∀ x ∈ l1, (∀ cs b, x.2.op ≠ .select cs b) ∧ x.2.apart ops o = true ∧ dstOk n x.2.dst = true ∧ (kd i = 0 ∨ kd x.1 = 0 ∨ (kd i = 1 ∧ kd x.1 = 1))) →
    ∀ {f : Nat → Value} {L : List Assn}, Fac Lb L → MixE P n ops kd Lb Le Z (l1 ++ (i, o) :: l2) f L → MixE P n ops kd Lb Le Z ((i, o) :: (l1 ++ l2)) f L
  | [], _, f, L, _, h => h
  | (k, p) :: l1, hall, f, L, hf, h => by
    obtain ⟨h1, h2, h3, h4⟩ := hall (k, p) (List.mem_cons_self ..)
    refine MixE.swap h1 hso h2 h3 hdo h4 hf ?_
    exact MixE.tail (fun f L hf h => MixE.front hso hdo l1 (fun x hx => hall x (List.mem_cons_of_mem _ hx)) hf h) hf h
theorem wpAny_mixE {Q : Post} {D : List Deferred} {F : Frag} {w0 : World} {f0 : Nat → Value} {ws : Nat → Bool} (hok : mixOk n ops kd m = true) (hel : earlyOk ops kd m = true) (hws : ∀ d, d ∈ writesL ops.toList → ws d = true) :
    ∀ (c : Nat) (l : List (Nat × Oper)) (listed : Array Bool) (a : Act) (w : World) (f : Nat → Value) (L : List Assn), l.length = c → Inv ops m listed l → Here D n F w0 f0 ws a w f L → Fac Lb L → ((∃ x ∈ l, kd x.1 = 1) → Fac Le L) →
      MixE P n ops kd Lb Le (fun f L => ExL P n ops (ops.toList.drop m) Q f L) l f L → wpAny P .any ops (Lift D n F w0 f0 ws Q) (l.length + (ops.size - m)) listed a w := by
  have hk0 := hok
  simp only [mixOk, Bool.and_eq_true, List.all_eq_true, List.mem_range, Bool.or_eq_true, Bool.not_eq_true'] at hk0
  obtain ⟨⟨⟨⟨⟨c1, c2⟩, c3⟩, c4⟩, c5⟩, c6⟩ := hk0
  have hm := Nat.le_of_ble_eq_true c6
  have hsel : ∀ (j : Nat) (o : Oper), ops[j]? = some o → ∀ cs b, o.op ≠ .select cs b := fun j o h cs b => Region.noSelect_spec c1 j o cs b h
  have hlex : ∀ j o, ops[j]? = some o → ∀ e ∈ o.after, Region.binds .any e = true → e.on < j := fun j o ho e he hb => by
    have := c2 j (Array.getElem?_eq_some_iff.1 ho).1
    rw [ho] at this
    simp only [Bool.and_eq_true] at this
    have h1 := this.1
    rw [← Array.all_toList, List.all_eq_true] at h1
    have h2 := h1 e (Array.mem_toList_iff.2 he)
    rw [hb] at h2
    simp at h2
    exact h2
  have hdst : ∀ (j : Nat) (o : Oper), ops[j]? = some o → dstOk n o.dst = true := fun j o ho => by
    have := c2 j (Array.getElem?_eq_some_iff.1 ho).1
    rw [ho] at this
    simp only [Bool.and_eq_true] at this
    exact this.2
  have hwr : ∀ (j : Nat) (o : Oper), ops[j]? = some o → ∀ t, o.dst = some t → ws t = true := fun j o ho t ht =>
    hws t (mem_writesL_iff.2 ⟨o, Array.mem_toList_iff.2 (Array.mem_of_getElem? ho), ht⟩)
  have hloud : ∀ j, j < m → loudK (kd j) = true → ∀ k, k < j → kd k = 0 ∨ waits ops 4 j k = true ∨ ∃ x, x < j ∧ k < x ∧ loudK (kd x) = true := fun j hj hl k hk => by
    rcases c4 j hj with h | h
    · rw [hl] at h; cases h
    · rcases h k hk with (h | h) | h
      · exact .inl (Nat.eq_of_beq_eq_true h)
      · exact .inr (.inl h)
      · simp only [List.any_eq_true, List.mem_range, Bool.and_eq_true] at h
        obtain ⟨x, hx, hkx, hlx⟩ := h
        exact .inr (.inr ⟨x, hx, by simpa using hkx, hlx⟩)
  have htail1 : m < ops.size → ∀ k, k < m → edgeOn ops m k = true := fun h2 k hk => by
    rcases c5 m h2 with h | h
    · have := Nat.le_of_ble_eq_true h; omega
    · rw [Nat.beq_refl] at h
      exact List.all_eq_true.1 h k (List.mem_range.2 hk)
  have htail : ∀ j, m < j → j < ops.size → edgeOn ops j (j - 1) = true := fun j h1 h2 => by
    rcases c5 j h2 with h | h
    · have := Nat.le_of_ble_eq_true h; omega
    · have : Nat.beq j m = false := by cases hq : Nat.beq j m with | false => rfl | true => (have := Nat.eq_of_beq_eq_true hq; omega)
      rw [this] at h
      exact h
  have hearly : ∀ j, j < m → loudK (kd j) = true → ∀ k, k < m → kd k = 1 → k < j := fun j hj hl k hk h1 => by
    unfold earlyOk at hel
    simp only [List.all_eq_true, List.mem_range, Bool.or_eq_true, Bool.not_eq_true'] at hel
    rcases hel j hj with h | h
    · rw [hl] at h; cases h
    · rcases h k hk with h | h
      · have : Nat.beq (kd k) 1 = true := by rw [h1]; rfl
        rw [this] at h; cases h
      · simpa using h
  intro c
  induction c with
  | zero =>
    intro l listed a w f L hc I H hf hE hM
    have hl : l = [] := List.eq_nil_of_length_eq_zero hc
    subst hl
    obtain ⟨L2, hs, hx⟩ := hM ⟨D, F, w, a, H.2.1, H.2.2.1⟩
    have hw := hx D F w0 f0 ws a w ⟨H.1, H.2.1, hs w F H.2.2.1, H.2.2.2⟩ (fun d hd => by
      obtain ⟨o, ho, hod⟩ := mem_writesL_iff.1 hd
      exact hws d (mem_writesL_iff.2 ⟨o, List.mem_of_mem_drop ho, hod⟩))
    have := wpAny_tail (P := P) (ops := ops) (Q := Lift D n F w0 f0 ws Q) (ops.toList.drop m) m listed a w (fun j => by simp) (by simp; omega) I.size (fun i hi => by
      cases hb : listed.getD i false with
      | true => rfl
      | false =>
        have hit : listed.getD i true = false := by
          have hs2 : i < listed.size := by rw [I.size]; omega
          simp [Array.getD, hs2] at hb ⊢; exact hb
        obtain ⟨o, ho⟩ := I.all i hi hit
        cases ho) I.back hlex htail hw
    simpa using this
  | succ c ih =>
    intro l listed a w f L hc I H hf hE hM
    obtain ⟨x0, lt, rfl⟩ : ∃ x0 lt, l = x0 :: lt := by
      cases l with
      | nil => simp at hc
      | cons x0 lt => exact ⟨x0, lt, rfl⟩
    obtain ⟨h01, h02, h03⟩ := I.mem x0 (List.mem_cons_self ..)
    have hlow : ∀ k, k < x0.1 → listed.getD k false = true := fun k hk => by
      cases hb : listed.getD k false with
      | true => rfl
      | false =>
        have hs2 : k < listed.size := by rw [I.size]; omega
        have hit : listed.getD k true = false := by simp [Array.getD, hs2] at hb ⊢; exact hb
        obtain ⟨o, ho⟩ := I.all k (by omega) hit
        rcases List.mem_cons.1 ho with e | e
        · rw [← e] at hk; simp at hk
        · have := (List.pairwise_cons.1 I.inc).1 _ e
          simp at this; omega
    have hr0 : x0.1 ∈ Region.ready .any ops listed := mem_ready.2 ⟨h03, x0.2, h01, fun e he hb => hlow _ (hlex _ _ h01 e he hb)⟩
    have hlen : (x0 :: lt).length + (ops.size - m) = lt.length + (ops.size - m) + 1 := by simp; omega
    rw [hlen]
    refine ⟨fun h0 => (by rw [h0] at hr0; cases hr0), fun i hi => ?_⟩
    obtain ⟨hli, o, ho, hall⟩ := mem_ready.1 hi
    have hisz := (Array.getElem?_eq_some_iff.1 ho).1
    have him : i < m := by
      rcases Nat.lt_or_ge i m with h | h
      · exact h
      · exfalso
        rcases Nat.eq_or_lt_of_le h with h | h
        · subst h
          obtain ⟨o2, ho2, e, he, hbn, hek⟩ := edgeOn_spec.1 (htail1 hisz x0.1 (by omega))
          rw [ho] at ho2; cases ho2
          have h1 := hall e he hbn
          rw [hek] at h1
          rw [getD_ft h1] at h03
          cases h03
        · obtain ⟨o2, ho2, e, he, hbn, hek⟩ := edgeOn_spec.1 (htail i h hisz)
          rw [ho] at ho2; cases ho2
          have h1 := hall e he hbn
          rw [hek] at h1
          have := I.back (i - 1) (by omega) (by omega)
          rw [getD_ft h1] at this
          cases this
    obtain ⟨o', hmem⟩ := I.all i him hli
    obtain ⟨hoo, _, _⟩ := I.mem _ hmem
    simp only at hoo
    rw [ho] at hoo
    cases hoo
    obtain ⟨l1, l2, hl⟩ := mem_split_l hmem
    rw [hl] at I hM hc hE
    have hinc := I.inc
    rw [List.pairwise_append, List.pairwise_cons] at hinc
    have hM' := MixE.front (hsel i o ho) (hdst i o ho) l1 (fun y hy => by
      obtain ⟨y1, y2, y3⟩ := I.mem y (List.mem_append_left _ hy)
      have hlt : y.1 < i := hinc.2.2 y hy (i, o) (List.mem_cons_self ..)
      have hne : edgeOn ops i y.1 = false := by
        cases hb : edgeOn ops i y.1 with
        | false => rfl
        | true =>
          obtain ⟨o2, ho2, e, he, hbn, hek⟩ := edgeOn_spec.1 hb
          rw [ho] at ho2; cases ho2
          have h1 := hall e he hbn
          rw [hek] at h1
          rw [getD_ft h1] at y3
          cases y3
      refine ⟨hsel _ _ y1, ?_, hdst _ _ y1, ?_⟩
      · have := c3 i him y.1 hlt
        rw [hne] at this
        rcases this with h | h
        · cases h
        · unfold apartAt at h
          rw [y1, ho] at h
          exact h
      · by_cases k0 : kd y.1 = 0
        · exact .inr (.inl k0)
        · cases hlk : loudK (kd i) with
          | false =>
            unfold loudK at hlk
            split at hlk
            · rename_i h; exact .inl h
            · rename_i h
              refine .inr (.inr ⟨h, ?_⟩)
              refine Classical.byContradiction fun hy1 => ?_
              have hyl : loudK (kd y.1) = true := by
                unfold loudK
                split
                · rename_i h2; exact absurd h2 k0
                · rename_i h2; exact absurd h2 hy1
                · rfl
              have := hearly y.1 y2 hyl i him h
              omega
            · cases hlk
          | true =>
            have := loud_listed I hloud (i - y.1) i y.1 (Nat.le_refl _) hlt him hlk k0 (.inr hi)
            rw [getD_ft this] at y3
            cases y3) hf hM
    have I' := I.step hi
    have hlc : (l1 ++ l2).length = c := by simp at hc ⊢; omega
    have hlt2 : lt.length = (l1 ++ l2).length := by
      have : (x0 :: lt).length = (l1 ++ (i, o) :: l2).length := by rw [hl]
      simp at this ⊢; omega
    rw [hlt2]
    have hb := hM' ⟨D, F, w, a, H.2.1, H.2.2.1⟩
    have hwant : Region.wanted o (yielded ops a.tmps) = wantF ops f o := by rw [H.2.1.yield ops]; rfl
    unfold wpOp
    rw [ho]
    simp only
    rw [hwant]
    have next : ∀ (v : Value) (w' : World) (L' : List Assn), Rest w w' → Sats w' L' F → Fac Lb L' → ((∃ x ∈ l1 ++ l2, kd x.1 = 1) → Fac Le L') → MixE P n ops kd Lb Le (fun f L => ExL P n ops (ops.toList.drop m) Q f L) (l1 ++ l2) (updo f o.dst v) L' →
        wpAny P .any ops (Lift D n F w0 f0 ws Q) ((l1 ++ l2).length + (ops.size - m)) (listed.setIfInBounds i true) (a.put o.dst v) w' := fun v w' L' hr hs hf' he' hm' =>
      ih (l1 ++ l2) _ _ w' _ L' hlc I' (H.puto hr hs (hdst i o ho) (hwr i o ho) v) hf' he' hm'
    have hE2 : (∃ x ∈ l1 ++ l2, kd x.1 = 1) → Fac Le L := fun ⟨x, hx, h1⟩ => hE ⟨x, by
      rcases List.mem_append.1 hx with hx | hx
      · exact List.mem_append_left _ hx
      · exact List.mem_append_right _ (List.mem_cons_of_mem _ hx), h1⟩
    split
    · rename_i hw
      rw [if_pos hw] at hb
      refine .inl ?_
      unfold Oper.wp
      rw [H.2.1.eval]
      by_cases k0 : kd i = 0
      · rw [if_pos k0] at hb
        obtain ⟨v, hv, hm'⟩ := hb
        obtain ⟨HH, sH, hback⟩ := hf w F H.2.2.1
        rw [hv HH w sH]
        exact next v w L (Rest.refl w) H.2.2.1 hf hE2 hm'
      · rw [if_neg k0] at hb
        by_cases k1 : kd i = 1
        · rw [if_pos k1] at hb
          obtain ⟨v, hv, hm'⟩ := hb
          obtain ⟨HH, sH, hback⟩ := hE ⟨(i, o), by simp, k1⟩ w F H.2.2.1
          rw [hv HH w sH]
          exact next v w L (Rest.refl w) H.2.2.1 hf hE2 hm'
        · rw [if_neg k1] at hb
          have hli2 : loudK (kd i) = true := by
            unfold loudK
            split
            · rename_i h2; exact absurd h2 k0
            · rename_i h2; exact absurd h2 k1
            · rfl
          have hno : ¬ ∃ x ∈ l1 ++ l2, kd x.1 = 1 := fun ⟨x, hx, h1⟩ => by
            obtain ⟨_, x2, x3⟩ := I'.mem x hx
            have hxi := hearly i him hli2 x.1 x2 h1
            have := loud_listed I hloud (i - x.1) i x.1 (Nat.le_refl _) hxi him hli2 (by rw [h1]; decide) (.inr hi)
            rw [Go.getD_set_ne true (by omega)] at x3
            rw [getD_ft this] at x3
            cases x3
          have hlw := hb F w0 w H.1 H.2.2.1
          have fin : ∀ v w', (∃ L2, Fac Lb L2 ∧ Rest w0 w' ∧ Sats w' L2 F ∧ MixE P n ops kd Lb Le (fun f L => ExL P n ops (ops.toList.drop m) Q f L) (l1 ++ l2) (updo f o.dst v) L2) →
              wpAny P .any ops (Lift D n F w0 f0 ws Q) ((l1 ++ l2).length + (ops.size - m)) (listed.setIfInBounds i true) (a.put o.dst v) w' := by
            rintro v w' ⟨L2, h1, h2, h3, h4⟩
            have hp := Here.puto (w' := w) H (Rest.refl w) H.2.2.1 (hdst i o ho) (hwr i o ho) v
            exact ih (l1 ++ l2) _ _ w' _ L2 hlc I' ⟨h2, hp.2.1, h3, hp.2.2.2⟩ h1 (fun h => (hno h).elim) h4
          unfold LW at hlw
          generalize (execOp (evalF f) o).run P w = r at hlw ⊢
          cases r with
          | halt x w' => exact hlw.elim
          | ok nx w' =>
            cases nx with
            | value v => exact fin v w' hlw
            | skip => exact fin undef w' hlw
            | enter k args =>
              show Calls P k args w' _
              exact Calls.mono hlw fun e w2 ⟨v, he, hv⟩ => by subst he; exact fin v w2 hv
            | row r args =>
              show Rows P r args w' _
              exact Rows.mono hlw fun v w2 hv => fin v w2 hv
            | _ => exact hlw.elim
    · rename_i hw
      rw [if_neg hw] at hb
      exact next undef w L (Rest.refl w) H.2.2.1 hf hE2 hb
/-- ONE WALK OF A REGION THAT DRAWS ITS ORDER: the first m operations in the words of Mix, the others one behind the other. -/
theorem Ex.mixE {Q : Post} {f : Nat → Value} {L : List Assn} {id : Nat} (m : Nat) (kd : Nat → Nat) (Lb Le : List Assn) (hm : P.follows .mixedOrders = true) (hok : mixOk n ops kd m = true) (hel : earlyOk ops kd m = true) (hf : Fac Lb L) (he : Fac Le L)
    (h : MixE P n ops kd Lb Le (fun f L => ExL P n ops (ops.toList.drop m) Q f L) (idx 0 (ops.toList.take m)) f L) : Ex P n (.region id ops true) Q f L := fun D F w0 f0 ws a w H hc => by
  have hk0 := hok
  simp only [mixOk, Bool.and_eq_true] at hk0
  have hms := Nat.le_of_ble_eq_true hk0.2
  refine wp_region_any hm ?_
  have hl : (idx 0 (ops.toList.take m)).length = m := by
    have : ∀ (l : List Oper) k, (idx k l).length = l.length := by
      intro l
      induction l with
      | nil => intro k; rfl
      | cons o l ih => intro k; simp [idx, ih]
    rw [this]; simp; omega
  have := wpAny_mixE (P := P) (Q := Q) (F := F) (w0 := w0) (f0 := f0) (ws := ws) hok hel hc m (idx 0 (ops.toList.take m)) (Array.replicate ops.size false) a w.drew f L hl ⟨idx_inc, ?_, ?_, ?_, by simp, ?_⟩ ⟨H.1, H.2.1, Sats.drew H.2.2.1, H.2.2.2⟩ hf (fun _ => he) h
  · rw [hl, show m + (ops.size - m) = ops.size by omega] at this
    exact this
  · intro x hx
    obtain ⟨h1, h2, h3⟩ := idx_mem hx
    simp at h2 h3
    rw [List.getElem?_take] at h3
    split at h3
    · refine ⟨by simpa using h3, by omega, ?_⟩
      simp [Array.getD]; omega
    · cases h3
  · intro i hi _
    have hs : i < ops.size := by omega
    refine ⟨ops[i], ?_⟩
    have := idx_get (k := 0) (l := ops.toList.take m) (i := i) (o := ops[i]) (by rw [List.getElem?_take, if_pos hi]; simp [hs])
    simpa using this
  · intro i _ hi
    simp [Array.getD, hi]
  · intro x o ho hx
    exfalso
    have hs := (Array.getElem?_eq_some_iff.1 ho).1
    simp [Array.getD, hs] at hx
end
/-! The steps of such a walk. -/
section
variable {P : Program} {n : Nat} {ops : Array Oper} {kd : Nat → Nat} {Lb Le : List Assn} {Z : (Nat → Value) → List Assn → Prop} {f : Nat → Value} {L : List Assn} {i : Nat} {o : Oper} {l : List (Nat × Oper)}
def meEnd (P : Program) (n : Nat) (kd : Nat → Nat) (ops : Array Oper) (Lb Le : List Assn) (Z : (Nat → Value) → List Assn → Prop) (l : List (Nat × Oper)) : Post
  | .normal, f, L => Fac Lb L ∧ MixE P n ops kd Lb Le Z l f L
  | _, _, _ => False
theorem me_nil (h : Z f L) : MixE P n ops kd Lb Le Z [] f L := fun _ => ⟨L, Sub.refl L, h⟩
theorem me_val {v : Value} {d : Nat} (hk : kd i = 0) (hg : o.guard = none) (ho : o.dst = some d) (hv : Val P o f Lb v) (h : MixE P n ops kd Lb Le Z l (upd f d v) L) : MixE P n ops kd Lb Le Z ((i, o) :: l) f L := fun _ => by
  have hw : wantF ops f o = true := wanted_none hg
  rw [if_pos hw, if_pos hk]
  exact ⟨v, hv, by rw [ho]; exact h⟩
theorem me_early {v : Value} {d : Nat} (hk : kd i = 1) (hg : o.guard = none) (ho : o.dst = some d) (hv : Val P o f Le v) (h : MixE P n ops kd Lb Le Z l (upd f d v) L) : MixE P n ops kd Lb Le Z ((i, o) :: l) f L := fun _ => by
  have hw : wantF ops f o = true := wanted_none hg
  rw [if_pos hw, if_neg (by rw [hk]; decide), if_pos hk]
  exact ⟨v, hv, by rw [ho]; exact h⟩
/-- An operation that acts: by the steps of a walk of one operation. -/
theorem me_act (hk : loudK (kd i) = true) (hg : o.guard = none) (hdo : dstOk n o.dst = true) (h : ExL P n ops [o] (meEnd P n kd ops Lb Le Z l) f L) : MixE P n ops kd Lb Le Z ((i, o) :: l) f L := fun ⟨D, _, _, a, ag, _⟩ => by
  have hw : wantF ops f o = true := wanted_none hg
  have k0 : kd i ≠ 0 := fun e => by rw [e] at hk; simp [loudK] at hk
  have k1 : kd i ≠ 1 := fun e => by rw [e] at hk; simp [loudK] at hk
  rw [if_pos hw, if_neg k0, if_neg k1]
  intro F w0 w r s
  have h1 := h D F w0 f (fun _ => true) a w ⟨r, ag, s, fun t ht => by cases ht⟩ (fun _ _ => rfl)
  unfold wpList at h1
  rw [if_pos (wanted_none hg)] at h1
  have fin : ∀ (a2 : Act) (w2 : World), Lift D n F w0 f (fun _ => true) (meEnd P n kd ops Lb Le Z l) .normal a2 w2 → ∃ f2 L2, Agree D n a2 f2 ∧ Rest w0 w2 ∧ Sats w2 L2 F ∧ Fac Lb L2 ∧ MixE P n ops kd Lb Le Z l f2 L2 := fun a2 w2 ⟨f2, L2, ⟨r2, ag2, s2, _⟩, q1, q2⟩ => ⟨f2, L2, ag2, r2, s2, q1, q2⟩
  have same : ∀ (v : Value) (f2 : Nat → Value), Agree D n (a.put o.dst v) f2 → f2 = updo f o.dst v := fun v f2 ag2 => by
    funext t
    rw [← ag2.2.2 t, (ag.puto hdo v).2.2 t]
  have fin2 : ∀ (v : Value) (w2 : World), Lift D n F w0 f (fun _ => true) (meEnd P n kd ops Lb Le Z l) .normal (a.put o.dst v) w2 → ∃ L2, Fac Lb L2 ∧ Rest w0 w2 ∧ Sats w2 L2 F ∧ MixE P n ops kd Lb Le Z l (updo f o.dst v) L2 := fun v w2 hl => by
    obtain ⟨f2, L2, ag2, r2, s2, hf2, hm2⟩ := fin _ _ hl
    rw [same v f2 ag2] at hm2
    exact ⟨L2, hf2, r2, s2, hm2⟩
  rcases h1 with h1 | ⟨_, a2, w2, _, _, _, hq⟩
  · unfold Oper.wp at h1
    rw [ag.eval] at h1
    unfold LW
    generalize (execOp (evalF f) o).run P w = rr at h1 ⊢
    cases rr with
    | halt x w' =>
      cases x with
      | panic v => obtain ⟨_, _, _, hq⟩ := h1; exact hq.elim
      | _ => exact h1.elim
    | ok nx w' =>
      cases nx with
      | value v => exact fin2 v w' h1
      | skip => exact fin2 undef w' h1
      | defer dd =>
        obtain ⟨f2, L2, hh, _⟩ := (show Lift D n F w0 f (fun _ => true) (meEnd P n kd ops Lb Le Z l) .normal _ _ from h1)
        have := hh.2.1.1
        have e2 := ag.1
        cases hd : o.dst <;> simp [Act.put, hd, e2] at this
      | enter k args =>
        show Calls P k args w' _
        refine Calls.mono h1 fun e w2 he => ?_
        cases e with
        | returned v => exact ⟨v, rfl, fin2 v w2 he⟩
        | panicked c => obtain ⟨_, _, _, hq⟩ := he; exact hq.elim
        | outgrown => obtain ⟨_, _, _, _, _, hq⟩ := he; exact hq.elim
      | row r args =>
        show Rows P r args w' _
        exact Rows.mono h1 fun v w2 hv => fin2 v w2 hv
      | _ => exact h1.elim
  · exact hq.elim
theorem meEnd_n (hf : Fac Lb L) (h : MixE P n ops kd Lb Le Z l f L) : meEnd P n kd ops Lb Le Z l .normal f L := ⟨hf, h⟩
def kdE (is : List Nat) (ops : Array Oper) (i : Nat) : Nat := match is.any (Nat.beq i) with
  | true => 1
  | false => kdOf ops i
theorem Ex.mixEs {Q : Post} {id : Nat} (m : Nat) (is : List Nat) (Lb : List Assn) (hm : P.follows .mixedOrders = true) (hok : mixOk n ops (kdE is ops) m = true) (hel : earlyOk ops (kdE is ops) m = true) (hf : Fac Lb L)
    (h : MixE P n ops (kdE is ops) Lb L (fun f L => ExL P n ops (ops.toList.drop m) Q f L) (idx 0 (ops.toList.take m)) f L) : Ex P n (.region id ops true) Q f L :=
  Ex.mixE m _ Lb L hm hok hel hf (Fac.refl L) h
end
theorem me {G G' : Prop} (k : G') (h : Hold G' → G := by (intro k; (repeat' (first | refine me_val (by rfl) (by rfl) (by rfl) rV ?_ | refine me_early (by rfl) (by rfl) (by rfl) rV ?_ | refine me_nil ?_)); (repeat' (first | exact k.out | revert h | revert hcs | revert cs | revert hzs | revert zs | revert o | revert v | revert g)))) : G := h ⟨k⟩
end Go.Proofs.Ytcclbplccnaonaa
/- Stamps, compared. No condition. -/
namespace Go.Proofs.Ytcclbplccnaonaa
open Go.RowKit
set_option linter.unusedSimpArgs false
set_option linter.unusedVariables false
set_option maxRecDepth 20000 attribute [local irreducible] Ex ExL Fn thn inb rnd fin meet Tab Mix mxEnd Val Sats RdT Rd RowT Row Blk Sub Fac ResV RVal Evs subs subs3 Hid Capd
theorem sless_F (h1 r1 h2 r2 : Int) (M : List Assn) : Fn Try.prog 16 #[.agg #[.int .i64 h1, .int .i64 r1], .agg #[.int .i64 h2, .int .i64 r2]] M fun v L' => v = .bool (decide (h1 < h2 ∨ (h1 = h2 ∧ r1 < r2))) ∧ L' = M := by
  refine Fn.of_ex Try.func16 rfl Try.ntmps16 rfl ?_
  by_cases e : h1 = h2
  · by_cases hr : r1 < r2
    · rw [decide_eq_true (.inr ⟨e, hr⟩ : h1 < h2 ∨ (h1 = h2 ∧ r1 < r2))]
      (refine rn ?_; (repeat (first | intro (g : Nat) | intro (v : Value) | intro (o : Value.oneCell' _ = true) | intro (cs : List Value) | intro (hcs : _ = List.set _ _ _) | intro (zs : List _) | intro (hzs : _))))
      (first | refine fin_ret rS ?_ | refine fin_norm rS ?_)
      exact ⟨_, rB, rfl, rfl⟩
    · rw [decide_eq_false (by omega : ¬ (h1 < h2 ∨ (h1 = h2 ∧ r1 < r2)))]
      (refine rn ?_; (repeat (first | intro (g : Nat) | intro (v : Value) | intro (o : Value.oneCell' _ = true) | intro (cs : List Value) | intro (hcs : _ = List.set _ _ _) | intro (zs : List _) | intro (hzs : _))))
      (first | refine fin_ret rS ?_ | refine fin_norm rS ?_)
      exact ⟨_, rB, rfl, rfl⟩
  · by_cases hh : h1 < h2
    · rw [decide_eq_true (.inl hh : h1 < h2 ∨ (h1 = h2 ∧ r1 < r2))]
      (refine rn ?_; (repeat (first | intro (g : Nat) | intro (v : Value) | intro (o : Value.oneCell' _ = true) | intro (cs : List Value) | intro (hcs : _ = List.set _ _ _) | intro (zs : List _) | intro (hzs : _))))
      (first | refine fin_ret rS ?_ | refine fin_norm rS ?_)
      exact ⟨_, rB, rfl, rfl⟩
    · rw [decide_eq_false (by omega : ¬ (h1 < h2 ∨ (h1 = h2 ∧ r1 < r2)))]
      (refine rn ?_; (repeat (first | intro (g : Nat) | intro (v : Value) | intro (o : Value.oneCell' _ = true) | intro (cs : List Value) | intro (hcs : _ = List.set _ _ _) | intro (zs : List _) | intro (hzs : _))))
      (first | refine fin_ret rS ?_ | refine fin_norm rS ?_)
      exact ⟨_, rB, rfl, rfl⟩
end Go.Proofs.Ytcclbplccnaonaa
/- Sorting by stamps, walked: the comparison; insertion. No condition. -/
namespace Go.Proofs.Ytcclbplccnaonaa
open Go.RowKit
set_option linter.unusedSimpArgs false
set_option linter.unusedVariables false
def stC (e : Ev) : List Value := [.int .i64 e.h, .int .i64 e.r]
@[reducible] def KA (ga : Nat) : Assn := Blk ga 64 [.func (.func 35) #[] #[]]
@[reducible] def KL (gl ga : Nat) : Assn := Blk gl 32 [.func (.func 37) #[] #[.pointer (some ⟨ga, 0, none⟩)]]
@[reducible] def cmpV (gl : Nat) : Value := .func (.func 48) #[] #[.pointer (some ⟨gl, 0, none⟩)]
def cmpE (a b : Ev) : Int := if stLt a b = true then -1 else if stLt b a = true then 1 else 0
theorem cmpE_neg (a b : Ev) : cmpE a b < 0 ↔ stLt a b = true := by
  unfold cmpE
  split
  · rename_i h; simp [h]
  · rename_i h
    split <;> simp [h]
theorem cmpE_rng (a b : Ev) : -1 ≤ cmpE a b ∧ cmpE a b ≤ 1 := by unfold cmpE; split <;> (try split) <;> omega
set_option maxRecDepth 20000 attribute [local irreducible] Ex ExL Fn thn inb rnd fin meet Tab Mix mxEnd Val Sats RdT Rd RowT Row Blk Sub Fac ResV RVal Evs subs subs3 Hid Capd
theorem at_F (e : Ev) (M : List Assn) : Fn Try.prog 35 #[.agg (Rep.cells e).toArray] M fun v L' => v = .agg #[.int .i64 e.h, .int .i64 e.r] ∧ L' = M := by
  refine Fn.of_ex Try.func35 rfl Try.ntmps35 rfl ?_
  (refine rn ?_; (repeat (first | intro (g : Nat) | intro (v : Value) | intro (o : Value.oneCell' _ = true) | intro (cs : List Value) | intro (hcs : _ = List.set _ _ _) | intro (zs : List _) | intro (hzs : _))))
  (first | refine fin_ret rS ?_ | refine fin_norm rS ?_)
  exact ⟨_, rB, rfl, rfl⟩
theorem less_F (a b : Ev) (ga : Nat) (M : List Assn) : Fn Try.prog 37 #[.agg (Rep.cells a).toArray, .agg (Rep.cells b).toArray, .pointer (some ⟨ga, 0, none⟩)] (KA ga :: M) fun v L' => v = .bool (stLt a b) ∧ L' = KA ga :: M := by
  refine Fn.of_ex Try.func37 rfl Try.ntmps37 rfl ?_
  (refine rn ?_; (repeat (first | intro (g : Nat) | intro (v : Value) | intro (o : Value.oneCell' _ = true) | intro (cs : List Value) | intro (hcs : _ = List.set _ _ _) | intro (zs : List _) | intro (hzs : _))))
  (refine Ex.mixA 7 _ rfl (by kernel_rfl) (Fac.refl _) ?_; (refine mn ?_; (repeat (first | intro (g : Nat) | intro (v : Value) | intro (o : Value.oneCell' _ = true) | intro (cs : List Value) | intro (hcs : _ = List.set _ _ _) | intro (zs : List _) | intro (hzs : _)))))
  refine mx_act (by rfl) (by rfl) (by rfl) ?_
  refine st_callC [] (xs := [.tmp 7]) (fs := []) (us := []) (vs := [.agg (Rep.cells a).toArray]) (by rfl) (by rfl) Try.call35 rE (by rfl) (at_F a _) ?_
  rintro _ _ ⟨rfl, rfl⟩
  (refine ExL.nil ?_; refine mxEnd_n rF ?_; (refine mn ?_; (repeat (first | intro (g : Nat) | intro (v : Value) | intro (o : Value.oneCell' _ = true) | intro (cs : List Value) | intro (hcs : _ = List.set _ _ _) | intro (zs : List _) | intro (hzs : _)))))
  refine mx_act (by rfl) (by rfl) (by rfl) ?_
  refine st_callC [] (xs := [.tmp 10]) (fs := []) (us := []) (vs := [.agg (Rep.cells b).toArray]) (by rfl) (by rfl) Try.call35 rE (by rfl) (at_F b _) ?_
  rintro _ _ ⟨rfl, rfl⟩
  (refine ExL.nil ?_; refine mxEnd_n rF ?_; (refine mn ?_; (repeat (first | intro (g : Nat) | intro (v : Value) | intro (o : Value.oneCell' _ = true) | intro (cs : List Value) | intro (hcs : _ = List.set _ _ _) | intro (zs : List _) | intro (hzs : _)))))
  (refine mx_act (by rfl) (by rfl) (by rfl) ?_; refine st_callIs [] (by rfl) Try.call16 rE (by rfl) (sless_F a.h a.r b.h b.r _) ?_)
  rintro _ _ ⟨rfl, rfl⟩
  (refine ExL.nil ?_; refine mxEnd_n rF ?_; (refine mn ?_; (repeat (first | intro (g : Nat) | intro (v : Value) | intro (o : Value.oneCell' _ = true) | intro (cs : List Value) | intro (hcs : _ = List.set _ _ _) | intro (zs : List _) | intro (hzs : _)))))
  (refine rn ?_; (repeat (first | intro (g : Nat) | intro (v : Value) | intro (o : Value.oneCell' _ = true) | intro (cs : List Value) | intro (hcs : _ = List.set _ _ _) | intro (zs : List _) | intro (hzs : _))))
  (first | refine fin_ret rS ?_ | refine fin_norm rS ?_)
  exact ⟨_, rB, rfl, rfl⟩
theorem cmp_F (a b : Ev) (gl ga : Nat) (M : List Assn) : Fn Try.prog 48 #[.agg (Rep.cells a).toArray, .agg (Rep.cells b).toArray, .pointer (some ⟨gl, 0, none⟩)] (KL gl ga :: KA ga :: M) fun v L' => v = .int .i64 (cmpE a b) ∧ L' = KL gl ga :: KA ga :: M := by
  unfold cmpE
  refine Fn.of_ex Try.func48 rfl Try.ntmps48 rfl ?_
  (refine rn ?_; (repeat (first | intro (g : Nat) | intro (v : Value) | intro (o : Value.oneCell' _ = true) | intro (cs : List Value) | intro (hcs : _ = List.set _ _ _) | intro (zs : List _) | intro (hzs : _))))
  refine st_callC [3] (xs := [.tmp 8, .tmp 9]) (fs := []) (us := [.pointer (some ⟨ga, 0, none⟩)]) (vs := [.agg (Rep.cells a).toArray, .agg (Rep.cells b).toArray]) (by rfl) (by rfl) Try.call37 rE (by rfl) (less_F a b ga _) ?_
  rintro _ _ ⟨rfl, rfl⟩
  cases h1 : stLt a b
  · (refine rn ?_; (repeat (first | intro (g : Nat) | intro (v : Value) | intro (o : Value.oneCell' _ = true) | intro (cs : List Value) | intro (hcs : _ = List.set _ _ _) | intro (zs : List _) | intro (hzs : _))))
    refine st_callC [] (xs := [.tmp 13, .tmp 14]) (fs := []) (us := [.pointer (some ⟨ga, 0, none⟩)]) (vs := [.agg (Rep.cells b).toArray, .agg (Rep.cells a).toArray]) (by rfl) (by rfl) Try.call37 rE (by rfl) (less_F b a ga _) ?_
    rintro _ _ ⟨rfl, rfl⟩
    cases h2 : stLt b a
    · (refine rn ?_; (repeat (first | intro (g : Nat) | intro (v : Value) | intro (o : Value.oneCell' _ = true) | intro (cs : List Value) | intro (hcs : _ = List.set _ _ _) | intro (zs : List _) | intro (hzs : _))))
      (first | refine fin_ret rS ?_ | refine fin_norm rS ?_)
      exact ⟨_, Sub.trans rB (fronts_sub [3] _), rfl, rfl⟩
    · (refine rn ?_; (repeat (first | intro (g : Nat) | intro (v : Value) | intro (o : Value.oneCell' _ = true) | intro (cs : List Value) | intro (hcs : _ = List.set _ _ _) | intro (zs : List _) | intro (hzs : _))))
      (first | refine fin_ret rS ?_ | refine fin_norm rS ?_)
      exact ⟨_, Sub.trans rB (fronts_sub [3] _), rfl, rfl⟩
  · (refine rn ?_; (repeat (first | intro (g : Nat) | intro (v : Value) | intro (o : Value.oneCell' _ = true) | intro (cs : List Value) | intro (hcs : _ = List.set _ _ _) | intro (zs : List _) | intro (hzs : _))))
    (first | refine fin_ret rS ?_ | refine fin_norm rS ?_)
    exact ⟨_, Sub.trans rB (fronts_sub [3] _), rfl, rfl⟩
end Go.Proofs.Ytcclbplccnaonaa
/- Two blocks of a row change places, walked. No condition. -/
namespace Go.Proofs.Ytcclbplccnaonaa
open Go.RowKit
set_option linter.unusedSimpArgs false
set_option linter.unusedVariables false
theorem swap_two (U V W : List Ev) (x y : Ev) : ((U ++ x :: (V ++ y :: W)).set U.length y).set (U.length + 1 + V.length) x = U ++ y :: (V ++ x :: W) := by
  induction U with
  | nil =>
    show (y :: (V ++ y :: W)).set (0 + 1 + V.length) x = y :: (V ++ x :: W)
    rw [show 0 + 1 + V.length = V.length + 1 by omega, List.set_cons_succ]
    congr 1
    induction V with
    | nil => rfl
    | cons a V ih =>
      show a :: ((V ++ y :: W).set V.length x) = _
      rw [ih]
      rfl
  | cons a U ih =>
    have e : (a :: U).length + 1 + V.length = (U.length + 1 + V.length) + 1 := by simp only [List.length_cons]; omega
    rw [e]
    show a :: (((U ++ x :: (V ++ y :: W)).set U.length y).set (U.length + 1 + V.length) x) = _
    rw [ih]
    rfl
theorem get_two (U V W : List Ev) (x y : Ev) (h : U.length + 1 + V.length < (U ++ x :: (V ++ y :: W)).length) : (U ++ x :: (V ++ y :: W))[U.length + 1 + V.length]'h = y := by
  rw [List.getElem_append_right (by omega)]
  simp only [show U.length + 1 + V.length - U.length = V.length + 1 by omega, List.getElem_cons_succ]
  rw [List.getElem_append_right (by omega)]
  simp
theorem get_one (U V W : List Ev) (x y : Ev) (h : U.length < (U ++ x :: (V ++ y :: W)).length) : (U ++ x :: (V ++ y :: W))[U.length]'h = x := by simp
set_option maxRecDepth 20000 attribute [local irreducible] Ex ExL Fn thn inb rnd fin meet Tab Mix mxEnd Val Sats RdT Rd RowT Row Blk Sub Fac ResV RVal Evs subs subs3 Hid Capd
attribute [local irreducible] MixE meEnd
set_option maxHeartbeats 8000000 in
theorem swapR_F (v0 vc : Value) (P A Q B S : List Ev) (a b n : Nat) (gl ga : Nat) (M : List Assn) (ha : P.length = a) (hA : A.length = n) (hB : B.length = n) (hb : b = a + n + Q.length) (hl : b + n + S.length ≤ 1000000) : Fn Try.prog 62 #[v0, .int .i64 a, .int .i64 b, .int .i64 n, vc] (KL gl ga :: KA ga :: Evs_ v0 (P ++ A ++ Q ++ B ++ S) :: M)
    fun v L' => L' = KL gl ga :: KA ga :: Evs_ v0 (P ++ B ++ Q ++ A ++ S) :: M := by
  refine Fn.of_ex Try.func62 rfl Try.ntmps62 rfl ?_
  (refine rn ?_; (repeat (first | intro (g : Nat) | intro (v : Value) | intro (o : Value.oneCell' _ = true) | intro (cs : List Value) | intro (hcs : _ = List.set _ _ _) | intro (zs : List _) | intro (hzs : _))))
  refine Ex.loop [10] (fun m vs L' => ∃ (i : Nat), i ≤ n ∧ m = n - i ∧ vs = [.int .i64 i] ∧ L' = KL gl ga :: KA ga :: Evs_ v0 (P ++ (B.take i ++ A.drop i) ++ Q ++ (A.take i ++ B.drop i) ++ S) :: M) n ⟨0, by omega, by omega, rfl, by simp⟩ ?_
  rintro m vs g1 L' ⟨i, hi, rfl, rfl, rfl⟩
  refine Ex.keep [0, 1, 2, 3, 10] rG (fun gk => ?_)
  by_cases hlt : i < n
  · have hiA : i < A.length := by omega
    have hiB : i < B.length := by omega
    obtain ⟨x, hx⟩ : ∃ x, x = A[i]'hiA := ⟨_, rfl⟩
    obtain ⟨y, hy⟩ : ∃ y, y = B[i]'hiB := ⟨_, rfl⟩
    have hdA : A.drop i = x :: A.drop (i + 1) := by rw [hx, List.getElem_cons_drop]
    have hdB : B.drop i = y :: B.drop (i + 1) := by rw [hy, List.getElem_cons_drop]
    obtain ⟨U, hU⟩ : ∃ U, U = P ++ B.take i := ⟨_, rfl⟩
    obtain ⟨V, hV⟩ : ∃ V, V = A.drop (i + 1) ++ Q ++ A.take i := ⟨_, rfl⟩
    obtain ⟨T, hT⟩ : ∃ T, T = B.drop (i + 1) ++ S := ⟨_, rfl⟩
    have hUl : U.length = a + i := by rw [hU, List.length_append, List.length_take]; omega
    have hVl : U.length + 1 + V.length = b + i := by rw [hUl, hV]; simp only [List.length_append, List.length_drop, List.length_take]; omega
    have hTl : T.length = n - (i + 1) + S.length := by rw [hT]; simp only [List.length_append, List.length_drop]; omega
    have hrow : P ++ (B.take i ++ A.drop i) ++ Q ++ (A.take i ++ B.drop i) ++ S = U ++ x :: (V ++ y :: T) := by
      rw [hU, hV, hT, hdA, hdB]
      simp only [List.append_assoc, List.cons_append, List.nil_append]
    have hnew : U ++ y :: (V ++ x :: T) = P ++ (B.take (i + 1) ++ A.drop (i + 1)) ++ Q ++ (A.take (i + 1) ++ B.drop (i + 1)) ++ S := by
      rw [hU, hV, hT, List.take_succ_eq_append_getElem hiA, List.take_succ_eq_append_getElem hiB, ← hx, ← hy]
      simp only [List.append_assoc, List.cons_append, List.nil_append]
    have hsw := swap_two U V T x y
    have hg1 := get_one U V T x y
    have hg2 := get_two U V T x y
    have hRl : (U ++ x :: (V ++ y :: T)).length = b + n + S.length := by
      simp only [List.length_append, List.length_cons]
      omega
    rw [hVl] at hsw hg2
    rw [hUl] at hsw hg1
    rw [hrow]
    generalize U ++ x :: (V ++ y :: T) = R at hRl hsw hg1 hg2 ⊢
    (refine rn ?_; (repeat (first | intro (g : Nat) | intro (v : Value) | intro (o : Value.oneCell' _ = true) | intro (cs : List Value) | intro (hcs : _ = List.set _ _ _) | intro (zs : List _) | intro (hzs : _))))
    (refine Ex.mixEs 22 [12, 13, 18, 19, 20] M rfl (by kernel_rfl) (by kernel_rfl) rF ?_; (refine me ?_; (repeat (first | intro (g : Nat) | intro (v : Value) | intro (o : Value.oneCell' _ = true) | intro (cs : List Value) | intro (hcs : _ = List.set _ _ _) | intro (zs : List _) | intro (hzs : _)))))
    rw [hg1, hg2]
    (refine me_act (by rfl) (by rfl) (by rfl) ?_; refine st_storeRA 2 (a := y) (by rfl) (by rfl) (by rfl) (by rfl) (by rfl) rO rfl ?_; refine ExL.nil ?_; refine meEnd_n rF ?_; (refine me ?_; (repeat (first | intro (g : Nat) | intro (v : Value) | intro (o : Value.oneCell' _ = true) | intro (cs : List Value) | intro (hcs : _ = List.set _ _ _) | intro (zs : List _) | intro (hzs : _)))))
    (refine rn ?_; (repeat (first | intro (g : Nat) | intro (v : Value) | intro (o : Value.oneCell' _ = true) | intro (cs : List Value) | intro (hcs : _ = List.set _ _ _) | intro (zs : List _) | intro (hzs : _))))
    refine st_storeRA 2 (a := x) (by rfl) (by rfl) (by rfl) (by rfl) (by rfl) rO rfl ?_
    rw [hsw, hnew]
    (refine rn ?_; (repeat (first | intro (g : Nat) | intro (v : Value) | intro (o : Value.oneCell' _ = true) | intro (cs : List Value) | intro (hcs : _ = List.set _ _ _) | intro (zs : List _) | intro (hzs : _))))
    exact rnd_n ⟨n - (i + 1), _, by omega, rB, i + 1, by omega, rfl, lcons (vint (by omega)) rfl, rfl⟩
  · obtain rfl : i = n := by omega
    (refine rn ?_; (repeat (first | intro (g : Nat) | intro (v : Value) | intro (o : Value.oneCell' _ = true) | intro (cs : List Value) | intro (hcs : _ = List.set _ _ _) | intro (zs : List _) | intro (hzs : _))))
    (first | refine fin_ret rS ?_ | refine fin_norm rS ?_)
    refine ⟨_, rB, ?_⟩
    rw [List.take_of_length_le (by omega), List.take_of_length_le (by omega), List.drop_eq_nil_of_le (by omega), List.drop_eq_nil_of_le (by omega), List.append_nil, List.append_nil]
end Go.Proofs.Ytcclbplccnaonaa
/- Two neighbouring blocks of a row change places, walked. No condition. -/
namespace Go.Proofs.Ytcclbplccnaonaa
open Go.RowKit
set_option linter.unusedSimpArgs false
set_option linter.unusedVariables false
set_option maxRecDepth 20000 attribute [local irreducible] Ex ExL Fn thn inb rnd fin meet Tab Mix mxEnd Val Sats RdT Rd RowT Row Blk Sub Fac ResV RVal Evs subs subs3 Hid Capd
set_option maxHeartbeats 8000000 in
theorem rotate_F (v0 vc : Value) (P U V S : List Ev) (a m b : Nat) (gl ga : Nat) (M : List Assn) (hP : P.length = a) (hU : a + U.length = m) (hV : m + V.length = b) (hu : 0 < U.length) (hv : 0 < V.length) (hl : b + S.length ≤ 1000000) : Fn Try.prog 61 #[v0, .int .i64 a, .int .i64 m, .int .i64 b, vc] (KL gl ga :: KA ga :: Evs_ v0 (P ++ U ++ V ++ S) :: M)
    fun v L' => L' = KL gl ga :: KA ga :: Evs_ v0 (P ++ V ++ U ++ S) :: M := by
  refine Fn.of_ex Try.func61 rfl Try.ntmps61 rfl ?_
  (refine rn ?_; (repeat (first | intro (g : Nat) | intro (v : Value) | intro (o : Value.oneCell' _ = true) | intro (cs : List Value) | intro (hcs : _ = List.set _ _ _) | intro (zs : List _) | intro (hzs : _))))
  refine Ex.loop [10, 11] (fun q vs L' => ∃ (i j : Nat) (P' U' V' S' : List Ev), q = i + j ∧ 0 < i ∧ 0 < j ∧ P'.length + i = m ∧ U'.length = i ∧ V'.length = j ∧ m + j + S'.length = b + S.length ∧ P' ++ V' ++ U' ++ S' = P ++ V ++ U ++ S ∧ vs = [.int .i64 i, .int .i64 j] ∧ L' = KL gl ga :: KA ga :: Evs_ v0 (P' ++ U' ++ V' ++ S') :: M) (U.length + V.length) ⟨U.length, V.length, P, U, V, S, rfl, hu, hv, by omega, rfl, rfl, by omega, rfl, lcons (vint (by omega)) (lcons (vint (by omega)) rfl), rfl⟩ ?_
  rintro q vs g1 L' ⟨i, j, P', U', V', S', rfl, hi, hj, h1, h2, h3, h4, h5, rfl, rfl⟩
  refine Ex.keep [0, 2, 4, 10, 11] rG (fun gk => ?_)
  rcases Nat.lt_trichotomy i j with hij | hij | hij
  · obtain ⟨V1, hV1⟩ : ∃ X, X = V'.take (j - i) := ⟨_, rfl⟩
    obtain ⟨V2, hV2⟩ : ∃ X, X = V'.drop (j - i) := ⟨_, rfl⟩
    have hVV : V' = V1 ++ V2 := by rw [hV1, hV2, List.take_append_drop]
    have l1 : V1.length = j - i := by rw [hV1, List.length_take]; omega
    have l2 : V2.length = i := by rw [hV2, List.length_drop]; omega
    have hrow : P' ++ U' ++ V' ++ S' = P' ++ U' ++ V1 ++ V2 ++ S' := by rw [hVV]; simp only [List.append_assoc]
    have hnew : P' ++ V2 ++ V1 ++ U' ++ S' = P' ++ V2 ++ V1 ++ (U' ++ S') := by simp only [List.append_assoc]
    have hs := fun M => swapR_F v0 vc P' U' V1 V2 S' (m - i) (m + j - i) i gl ga M (by omega) h2 l2 (by omega) (by omega)
    rw [hrow]
    (refine rn ?_; (repeat (first | intro (g : Nat) | intro (v : Value) | intro (o : Value.oneCell' _ = true) | intro (cs : List Value) | intro (hcs : _ = List.set _ _ _) | intro (zs : List _) | intro (hzs : _))))
    rw [show (m : Int) - (i : Int) = ((m - i : Nat) : Int) by omega, show (m : Int) + (j : Int) - (i : Int) = ((m + j - i : Nat) : Int) by omega]
    refine st_callIs [] (by rfl) Try.call62 rE (by rfl) (hs _) ?_
    rintro _ _ rfl
    rw [hnew]
    (refine rn ?_; (repeat (first | intro (g : Nat) | intro (v : Value) | intro (o : Value.oneCell' _ = true) | intro (cs : List Value) | intro (hcs : _ = List.set _ _ _) | intro (zs : List _) | intro (hzs : _))))
    exact rnd_n ⟨i + (j - i), _, by omega, rB, i, j - i, P', V2, V1, U' ++ S', rfl, hi, by omega, h1, l2, l1, by rw [List.length_append]; omega, by rw [← h5, hVV]; simp only [List.append_assoc], lcons rfl (lcons (vint (by omega)) rfl), rfl⟩
  · subst hij
    have hs := fun M => swapR_F v0 vc P' U' [] V' S' (m - i) m i gl ga M (by omega) h2 h3 (by simp; omega) (by omega)
    have hrow : P' ++ U' ++ V' ++ S' = P' ++ U' ++ [] ++ V' ++ S' := by simp
    have hnew : P' ++ V' ++ [] ++ U' ++ S' = P ++ V ++ U ++ S := by rw [List.append_nil]; exact h5
    rw [hrow]
    (refine rn ?_; (repeat (first | intro (g : Nat) | intro (v : Value) | intro (o : Value.oneCell' _ = true) | intro (cs : List Value) | intro (hcs : _ = List.set _ _ _) | intro (zs : List _) | intro (hzs : _))))
    rw [show (m : Int) - (i : Int) = ((m - i : Nat) : Int) by omega]
    refine st_callIs [] (by rfl) Try.call62 rE (by rfl) (hs _) ?_
    rintro _ _ rfl
    rw [hnew]
    (refine rn ?_; (repeat (first | intro (g : Nat) | intro (v : Value) | intro (o : Value.oneCell' _ = true) | intro (cs : List Value) | intro (hcs : _ = List.set _ _ _) | intro (zs : List _) | intro (hzs : _))))
    (first | refine fin_ret rS ?_ | refine fin_norm rS ?_)
    exact ⟨_, rB, rfl⟩
  · obtain ⟨U1, hU1⟩ : ∃ X, X = U'.take j := ⟨_, rfl⟩
    obtain ⟨U2, hU2⟩ : ∃ X, X = U'.drop j := ⟨_, rfl⟩
    have hUU : U' = U1 ++ U2 := by rw [hU1, hU2, List.take_append_drop]
    have l1 : U1.length = j := by rw [hU1, List.length_take]; omega
    have l2 : U2.length = i - j := by rw [hU2, List.length_drop]; omega
    have hrow : P' ++ U' ++ V' ++ S' = P' ++ U1 ++ U2 ++ V' ++ S' := by rw [hUU]; simp only [List.append_assoc]
    have hnew : P' ++ V' ++ U2 ++ U1 ++ S' = (P' ++ V') ++ U2 ++ U1 ++ S' := rfl
    have hs := fun M => swapR_F v0 vc P' U1 U2 V' S' (m - i) m j gl ga M (by omega) l1 h3 (by omega) (by omega)
    rw [hrow]
    (refine rn ?_; (repeat (first | intro (g : Nat) | intro (v : Value) | intro (o : Value.oneCell' _ = true) | intro (cs : List Value) | intro (hcs : _ = List.set _ _ _) | intro (zs : List _) | intro (hzs : _))))
    rw [show (m : Int) - (i : Int) = ((m - i : Nat) : Int) by omega]
    refine st_callIs [] (by rfl) Try.call62 rE (by rfl) (hs _) ?_
    rintro _ _ rfl
    (refine rn ?_; (repeat (first | intro (g : Nat) | intro (v : Value) | intro (o : Value.oneCell' _ = true) | intro (cs : List Value) | intro (hcs : _ = List.set _ _ _) | intro (zs : List _) | intro (hzs : _))))
    exact rnd_n ⟨(i - j) + j, _, by omega, rB, i - j, j, P' ++ V', U2, U1, S', rfl, by omega, hj, by rw [List.length_append]; omega, l2, l1, h4, by rw [← h5, hUU]; simp only [List.append_assoc], lcons (vint (by omega)) (lcons rfl rfl), rfl⟩
end Go.Proofs.Ytcclbplccnaonaa
/- Insertion, walked. No condition. -/
namespace Go.Proofs.Ytcclbplccnaonaa
open Go.RowKit
set_option linter.unusedSimpArgs false
set_option linter.unusedVariables false
theorem swap2 (P Q : List Ev) (x y : Ev) : ((P ++ y :: x :: Q).set (P.length + 1) y).set P.length x = P ++ x :: y :: Q := by
  induction P with
  | nil => rfl
  | cons a P ih => simp [ih]
theorem get_mid (P Q : List Ev) (y : Ev) (h : P.length < (P ++ y :: Q).length) : (P ++ y :: Q)[P.length]'h = y := by simp
theorem get_mid1 (P Q : List Ev) (x y : Ev) (h : P.length + 1 < (P ++ y :: x :: Q).length) : (P ++ y :: x :: Q)[P.length + 1]'h = x := by simp
theorem one_row (xs : List Ev) (a : Nat) : xs.take a ++ sortP ((xs.drop a).take (a + 1 - a)) ++ xs.drop (a + 1) = xs := by
  by_cases ha : a < xs.length
  · have e1 : (xs.drop a).take (a + 1 - a) = [xs[a]'ha] := by
      rw [show a + 1 - a = 1 by omega, ← List.getElem_cons_drop ha]
      rfl
    rw [e1]
    show xs.take a ++ [xs[a]'ha] ++ xs.drop (a + 1) = xs
    rw [List.append_assoc, List.singleton_append, List.getElem_cons_drop, List.take_append_drop]
  · rw [List.drop_eq_nil_of_le (show xs.length ≤ a by omega), List.drop_eq_nil_of_le (show xs.length ≤ a + 1 by omega), List.take_of_length_le (by omega)]
    simp [sortP]
set_option maxRecDepth 20000 attribute [local irreducible] Ex ExL Fn thn inb rnd fin meet Tab Mix mxEnd Val Sats RdT Rd RowT Row Blk Sub Fac ResV RVal Evs subs subs3 Hid Capd
attribute [local irreducible] MixE meEnd
set_option maxHeartbeats 8000000 in
theorem isort_F (v0 : Value) (xs : List Ev) (gl ga a b : Nat) (M : List Assn) (hab : a ≤ b) (hb : b ≤ xs.length) (hl : xs.length ≤ 1000000) : Fn Try.prog 59 #[v0, .int .i64 a, .int .i64 b, cmpV gl] (KL gl ga :: KA ga :: Evs_ v0 xs :: M)
    fun v L' => L' = KL gl ga :: KA ga :: Evs_ v0 (xs.take a ++ sortP ((xs.drop a).take (b - a)) ++ xs.drop b) :: M := by
  refine Fn.of_ex Try.func59 rfl Try.ntmps59 rfl ?_
  (refine rn ?_; (repeat (first | intro (g : Nat) | intro (v : Value) | intro (o : Value.oneCell' _ = true) | intro (cs : List Value) | intro (hcs : _ = List.set _ _ _) | intro (zs : List _) | intro (hzs : _))))
  refine Ex.loop [8] (fun m vs L' => ∃ (i : Nat), a + 1 ≤ i ∧ (i ≤ b ∨ i = a + 1) ∧ m = b + 1 - i ∧ vs = [.int .i64 i] ∧ L' = KL gl ga :: KA ga :: Evs_ v0 (xs.take a ++ sortP ((xs.drop a).take (i - a)) ++ xs.drop i) :: M) _ ⟨a + 1, by omega, .inr rfl, rfl, lcons (vint (by omega)) rfl, ?_⟩ ?_
  · rw [one_row]
  rintro m vs g1 L' ⟨i, hi1, hi2, rfl, rfl, rfl⟩
  refine Ex.keep [0, 1, 2, 3, 8] rG (fun gk => ?_)
  by_cases hlt : i < b
  · have hix : i < xs.length := by omega
    obtain ⟨x, hx⟩ : ∃ x, x = xs[i]'hix := ⟨_, rfl⟩
    obtain ⟨S, hS⟩ : ∃ S, S = sortP ((xs.drop a).take (i - a)) := ⟨_, rfl⟩
    have hSl : S.length = i - a := by rw [hS, (sortP_perm _).length_eq, List.length_take, List.length_drop]; omega
    have hSs : Srt S := by rw [hS]; exact sortP_srt _
    have hnext : sortP ((xs.drop a).take (i + 1 - a)) = ins x S := by
      rw [hS, ← sortP_snoc]
      congr 1
      rw [show i + 1 - a = (i - a) + 1 by omega, List.take_succ_eq_append_getElem (by rw [List.length_drop]; omega), hx]
      congr 2
      rw [List.getElem_drop]
      congr 1
      omega
    have hdrop : xs.drop i = x :: xs.drop (i + 1) := by rw [hx, List.getElem_cons_drop]
    rw [← hS, hdrop]
    obtain ⟨A, hA⟩ : ∃ A, A = xs.take a := ⟨_, rfl⟩
    have hAl : A.length = a := by rw [hA, List.length_take]; omega
    obtain ⟨B, hB⟩ : ∃ B, B = xs.drop (i + 1) := ⟨_, rfl⟩
    rw [← hA, ← hB]
    (refine rn ?_; (repeat (first | intro (g : Nat) | intro (v : Value) | intro (o : Value.oneCell' _ = true) | intro (cs : List Value) | intro (hcs : _ = List.set _ _ _) | intro (zs : List _) | intro (hzs : _))))
    refine Ex.loop [9] (fun m vs L' => ∃ (S1 S2 : List Ev), S = S1 ++ S2 ∧ m = S1.length ∧ vs = [.int .i64 (a + S1.length : Nat)] ∧ (∀ y ∈ S2, stLt x y = true) ∧ L' = KL gl ga :: KA ga :: Evs_ v0 (A ++ S1 ++ x :: (S2 ++ B)) :: M) _ ⟨S, [], by simp, rfl, lcons (vint (by omega)) rfl, by simp, by simp⟩ ?_
    rintro m vs g2 L' ⟨S1, S2, hS12, rfl, rfl, hgt, rfl⟩
    refine Ex.keep [0, 1, 2, 3, 8, 9] rG (fun gk => ?_)
    have hS1l : S1.length ≤ i - a := by rw [← hSl, hS12, List.length_append]; omega
    rcases List.eq_nil_or_concat S1 with rfl | ⟨T, y, rfl⟩
    · rw [List.nil_append] at hS12
      have hin : ins x S = x :: S2 := by
        rw [hS12]
        have := ins_at x (pre := []) (suf := S2) (by simp) (fun y hy => hgt y (List.mem_of_mem_head? hy))
        simpa using this
      have hrow : A ++ ([] : List Ev) ++ x :: (S2 ++ B) = A ++ sortP ((xs.drop a).take (i + 1 - a)) ++ xs.drop (i + 1) := by
        rw [hnext, hin, ← hB]; simp
      rw [hrow]
      (refine rn ?_; (repeat (first | intro (g : Nat) | intro (v : Value) | intro (o : Value.oneCell' _ = true) | intro (cs : List Value) | intro (hcs : _ = List.set _ _ _) | intro (zs : List _) | intro (hzs : _))))
      (refine Ex.mixA 17 _ rfl (by kernel_rfl) (Fac.refl _) ?_; (refine mn ?_; (repeat (first | intro (g : Nat) | intro (v : Value) | intro (o : Value.oneCell' _ = true) | intro (cs : List Value) | intro (hcs : _ = List.set _ _ _) | intro (zs : List _) | intro (hzs : _)))))
      (refine rn ?_; (repeat (first | intro (g : Nat) | intro (v : Value) | intro (o : Value.oneCell' _ = true) | intro (cs : List Value) | intro (hcs : _ = List.set _ _ _) | intro (zs : List _) | intro (hzs : _))))
      exact rnd_n ⟨b + 1 - (i + 1), _, by omega, rB, i + 1, by omega, .inl (by omega), rfl, lcons (vint (by omega)) rfl, rfl⟩
    · rw [List.concat_eq_append] at hS12 hS1l ⊢
      rw [List.length_append] at hS1l ⊢
      simp only [List.length_cons, List.length_nil] at hS1l ⊢
      obtain ⟨P, hP⟩ : ∃ P, P = A ++ T := ⟨_, rfl⟩
      obtain ⟨Q, hQ⟩ : ∃ Q, Q = S2 ++ B := ⟨_, rfl⟩
      have hPl : P.length = a + T.length := by rw [hP, List.length_append, hAl]
      have hrow : A ++ (T ++ [y]) ++ x :: (S2 ++ B) = P ++ y :: x :: Q := by rw [hP, hQ]; simp
      rw [hrow]
      have hlen : (P ++ y :: x :: Q).length = xs.length := by
        have : xs.length = a + (T.length + 1 + S2.length) + 1 + B.length := by
          have h1 := congrArg List.length hS12
          rw [hSl, List.length_append, List.length_append] at h1
          simp only [List.length_cons, List.length_nil] at h1
          rw [hB, List.length_drop]
          omega
        rw [hQ]
        simp only [List.length_append, List.length_cons]
        omega
      have hgp : ∀ h, (P ++ y :: x :: Q)[P.length]'h = y := get_mid P (x :: Q) y
      have hgj : ∀ h, (P ++ y :: x :: Q)[P.length + 1]'h = x := get_mid1 P Q x y
      have hsw := swap2 P Q x y
      have hcn := cmpE_neg x y
      have hcr := cmpE_rng x y
      generalize hR : P ++ y :: x :: Q = R at hlen hgp hgj hsw ⊢
      obtain ⟨p, hp⟩ : ∃ p, p = P.length := ⟨_, rfl⟩
      rw [← hp] at hPl hgp hgj hsw
      rw [show a + (T.length + 1) = p + 1 by omega]
      have hgp2 : ∀ h, R[(((p + 1 : Nat) : Int) - 1).toNat]'h = y := fun h => by
        have : (((p + 1 : Nat) : Int) - 1).toNat = p := by omega
        simp only [this]
        exact hgp _
      have hgj2 : ∀ h, R[((p + 1 : Nat) : Int).toNat]'h = x := fun h => hgj h
      (refine rn ?_; (repeat (first | intro (g : Nat) | intro (v : Value) | intro (o : Value.oneCell' _ = true) | intro (cs : List Value) | intro (hcs : _ = List.set _ _ _) | intro (zs : List _) | intro (hzs : _))))
      (refine Ex.mixA 17 _ rfl (by kernel_rfl) (Fac.refl _) ?_; (refine mn ?_; (repeat (first | intro (g : Nat) | intro (v : Value) | intro (o : Value.oneCell' _ = true) | intro (cs : List Value) | intro (hcs : _ = List.set _ _ _) | intro (zs : List _) | intro (hzs : _)))))
      rw [hgj, hgp2]
      refine mx_act (by rfl) (by rfl) (by rfl) ?_
      refine st_callC [] (xs := [.tmp 26, .tmp 31]) (fs := []) (us := [.pointer (some ⟨gl, 0, none⟩)]) (vs := [.agg (Rep.cells x).toArray, .agg (Rep.cells y).toArray]) (by rfl) (by rfl) Try.call48 rE (by rfl) (cmp_F x y gl ga _) ?_
      rintro _ _ ⟨rfl, rfl⟩
      generalize cmpE x y = cc at hcn hcr ⊢
      by_cases hlx : stLt x y = true
      · have hcc := hcn.2 hlx
        (refine ExL.nil ?_; refine mxEnd_n rF ?_; (refine mn ?_; (repeat (first | intro (g : Nat) | intro (v : Value) | intro (o : Value.oneCell' _ = true) | intro (cs : List Value) | intro (hcs : _ = List.set _ _ _) | intro (zs : List _) | intro (hzs : _)))))
        (refine rn ?_; (repeat (first | intro (g : Nat) | intro (v : Value) | intro (o : Value.oneCell' _ = true) | intro (cs : List Value) | intro (hcs : _ = List.set _ _ _) | intro (zs : List _) | intro (hzs : _))))
        refine know_spt (v := v0) (xs := R) rD (by omega) (fun hsp => ?_)
        (refine Ex.mixEs 16 [8, 9, 12, 13, 14] M rfl (by kernel_rfl) (by kernel_rfl) rF ?_; (refine me ?_; (repeat (first | intro (g : Nat) | intro (v : Value) | intro (o : Value.oneCell' _ = true) | intro (cs : List Value) | intro (hcs : _ = List.set _ _ _) | intro (zs : List _) | intro (hzs : _)))))
        rw [hgj, hgp2]
        (refine me_act (by rfl) (by rfl) (by rfl) ?_; refine st_storeRA 2 (a := y) (by rfl) (by rfl) (by rfl) (by rfl) (by rfl) rO rfl ?_; refine ExL.nil ?_; refine meEnd_n rF ?_; (refine me ?_; (repeat (first | intro (g : Nat) | intro (v : Value) | intro (o : Value.oneCell' _ = true) | intro (cs : List Value) | intro (hcs : _ = List.set _ _ _) | intro (zs : List _) | intro (hzs : _)))))
        (refine rn ?_; (repeat (first | intro (g : Nat) | intro (v : Value) | intro (o : Value.oneCell' _ = true) | intro (cs : List Value) | intro (hcs : _ = List.set _ _ _) | intro (zs : List _) | intro (hzs : _))))
        refine st_storeRA 2 (a := x) (by rfl) (by rfl) (by rfl) (by rfl) (by rfl) rO rfl ?_
        have hfin : (R.set (p + 1) y).set (((p + 1 : Nat) : Int) - 1).toNat x = A ++ T ++ x :: (y :: S2 ++ B) := by
          rw [show (((p + 1 : Nat) : Int) - 1).toNat = p by omega, hsw, hP, hQ]
          simp
        rw [hfin]
        (refine rn ?_; (repeat (first | intro (g : Nat) | intro (v : Value) | intro (o : Value.oneCell' _ = true) | intro (cs : List Value) | intro (hcs : _ = List.set _ _ _) | intro (zs : List _) | intro (hzs : _))))
        exact rnd_n ⟨T.length, _, by omega, rB, T, y :: S2, by rw [hS12]; simp, rfl, lcons (vint (by omega)) rfl, (fun z hz => by
          rcases List.mem_cons.1 hz with rfl | hz
          · exact hlx
          · exact hgt z hz), rfl⟩
      · have hcc : ¬ cc < 0 := fun h => hlx (hcn.1 h)
        have hin : ins x S = (T ++ [y]) ++ x :: S2 := by
          rw [hS12]
          refine ins_at x (fun z hz => ?_) (fun z hz => hgt z (List.mem_of_mem_head? hz))
          rw [hS12] at hSs
          have h1 := (List.pairwise_append.1 hSs).1
          have hxy : stLt x y = false := by simpa using hlx
          rcases List.mem_append.1 hz with hz | hz
          · exact stLt_ge hxy ((List.pairwise_append.1 h1).2.2 z hz y (by simp))
          · simp only [List.mem_singleton] at hz
            subst hz
            exact hxy
        have hfin : R = A ++ sortP ((xs.drop a).take (i + 1 - a)) ++ xs.drop (i + 1) := by
          rw [hnext, hin, ← hB, ← hR, hP, hQ]; simp
        (refine ExL.nil ?_; refine mxEnd_n rF ?_; (refine mn ?_; (repeat (first | intro (g : Nat) | intro (v : Value) | intro (o : Value.oneCell' _ = true) | intro (cs : List Value) | intro (hcs : _ = List.set _ _ _) | intro (zs : List _) | intro (hzs : _)))))
        (refine rn ?_; (repeat (first | intro (g : Nat) | intro (v : Value) | intro (o : Value.oneCell' _ = true) | intro (cs : List Value) | intro (hcs : _ = List.set _ _ _) | intro (zs : List _) | intro (hzs : _))))
        exact rnd_n ⟨b + 1 - (i + 1), _, by omega, rB, i + 1, by omega, .inl (by omega), rfl, lcons (vint (by omega)) rfl, by rw [← hfin]⟩
  · (refine rn ?_; (repeat (first | intro (g : Nat) | intro (v : Value) | intro (o : Value.oneCell' _ = true) | intro (cs : List Value) | intro (hcs : _ = List.set _ _ _) | intro (zs : List _) | intro (hzs : _))))
    (first | refine fin_ret rS ?_ | refine fin_norm rS ?_)
    refine ⟨_, rB, ?_⟩
    rcases hi2 with hi2 | hi2
    · obtain rfl : i = b := by omega
      rfl
    · subst hi2
      by_cases hba : b = a + 1
      · subst hba; rfl
      · obtain rfl : b = a := by omega
        rw [one_row, Nat.sub_self, List.take_zero]
        show _ = KL gl ga :: KA ga :: Evs_ v0 (xs.take b ++ [] ++ xs.drop b) :: M
        rw [List.append_nil, List.take_append_drop]
end Go.Proofs.Ytcclbplccnaonaa
