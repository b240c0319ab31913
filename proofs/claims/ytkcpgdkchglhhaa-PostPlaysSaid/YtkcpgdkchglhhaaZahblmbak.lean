/- Several texts, one behind the other; each says in its head what it proves. No condition. -/
import Derived.Test.YtkcpgdkchglhhaaZldjckhlk
import Derived.Test.YtkcpgdkchglhhaaZepeahjgj
/- A variable that is an array of things, at places that are not literal. No condition. -/
namespace Go.Proofs.Ytkcpgdkchglhhaa
open Go.RowKit
set_option linter.unusedSimpArgs false
set_option linter.unusedVariables false
theorem cellsOf_get1 {α : Type} [Rep α] {xs : List α} {j : Nat} (hj : j < xs.length) : ((cellsOf xs).drop (j * Rep.sz α)).take (Rep.sz α) = Rep.cells (xs[j]'hj) := by
  rw [cellsOf_drop, List.drop_eq_getElem_cons hj]
  show ((Rep.cells (xs[j]'hj)) ++ cellsOf (xs.drop (j + 1))).take (Rep.sz α) = _
  rw [← Rep.len (xs[j]'hj), List.take_left]
theorem cellsOf_setA {α : Type} [Rep α] {xs : List α} {j : Nat} (hj : j < xs.length) (a : α) : (cellsOf xs).take (j * Rep.sz α) ++ Rep.cells a ++ (cellsOf xs).drop (j * Rep.sz α + Rep.sz α) = cellsOf (xs.set j a) := by
  have e : xs.set j a = xs.take j ++ a :: xs.drop (j + 1) := List.set_eq_take_append_cons_drop .. |>.trans (by rw [if_pos hj])
  rw [e, cellsOf_append, cellsOf_take, ← Nat.succ_mul, cellsOf_drop]
  show cellsOf (xs.take j) ++ Rep.cells a ++ cellsOf (xs.drop (j + 1)) = cellsOf (xs.take j) ++ (Rep.cells a ++ cellsOf (xs.drop (j + 1)))
  rw [List.append_assoc]
section
variable {P : Program} {n : Nat} {ops : Array Oper} {Q : Post} {f : Nat → Value} {L : List Assn} {rest : List Oper} {d : Nat} {ty : TypeId} {pos : String} {af : Array Edge} {gd : Option (Nat × Bool)}
variable {α : Type} [Rep α] {xs : List α}
/-- A whole thing. -/
theorem vl_loadBA (i : Nat) {t bt : TypeId} {x : Operand} {g j sz : Nat} (hx : evalF f x = .pointer (some ⟨g, 0 + j * sz, none⟩)) (hi : L[i]? = some (Blk g bt (cellsOf xs))) (hA : aggB P t = some true) (hm : P.cellsOf t = sz) (hsz : Rep.sz α = sz) (hj : j < xs.length) :
    Val P ⟨some d, .load t x, ty, pos, af, gd⟩ f L (.agg (Rep.cells (xs[j]'hj)).toArray) := fun F w s => by
  subst hsz
  have := run_loadVarA (P := P) w (t := t) (a := ⟨g, 0 + j * Rep.sz α, none⟩) (cs := Rep.cells (xs[j]'hj)) hA (by rw [hm, Rep.len]) (by rw [Rep.len]; exact Rep.pos) (fun k u hk => by
    rw [addr_add]
    rw [← cellsOf_get1 hj] at hk
    have := take_drop_get hk
    rw [Nat.zero_add]
    exact blk_cell hi this s)
  rw [Nat.zero_add] at hx this
  simp [execOp, hx, Instr.loadAt, Instr.sureAddr, this]
/-- A cell of a thing. -/
theorem vl_loadB1 (i : Nat) {t bt : TypeId} {x : Operand} {g j o sz : Nat} {v : Value} (hx : evalF f x = .pointer (some ⟨g, 0 + j * sz + o * 1, none⟩)) (hi : L[i]? = some (Blk g bt (cellsOf xs))) (hA : aggB P t = some false) (hsz : Rep.sz α = sz) (hj : j < xs.length) (ho : o < sz) (hv : (Rep.cells (xs[j]'hj))[o]? = some v) :
    Val P ⟨some d, .load t x, ty, pos, af, gd⟩ f L v := fun F w s => by
  subst hsz
  have h := cellsOf_get hj ho
  rw [hv] at h
  rw [Nat.zero_add, Nat.mul_one] at hx
  have := run_loadVar1 (P := P) w hA (blk_cell hi h s)
  simp [execOp, hx, Instr.loadAt, Instr.sureAddr, this]
theorem st_storeBA (i : Nat) {t bt : TypeId} {x y : Operand} {g j sz : Nat} {a : α} {L' : List Assn} (hx : evalF f x = .pointer (some ⟨g, 0 + j * sz, none⟩)) (hi : L[i]? = some (Blk g bt (cellsOf xs))) (hy : evalF f y = .agg (Rep.cells a).toArray) (hm : P.cellsOf t = sz) (hsz : Rep.sz α = sz) (hj : j < xs.length)
    (hL : L.set i (Blk g bt (cellsOf (xs.set j a))) = L') (h : ExL P n ops rest Q f L') : ExL P n ops (⟨none, .store t x y, ty, pos, af, none⟩ :: rest) Q f L := by
  subst hsz
  refine st_storeA i hx hy (Rep.one a) hi (by rw [hm, Rep.len]) (by rw [Rep.len]; exact Nat.ble_eq_true_of_le (show 0 + 1 ≤ _ from Rep.pos)) (by
    rw [Rep.len, cellsOf_len, Nat.zero_add, ← Nat.succ_mul]
    exact Nat.ble_eq_true_of_le (Nat.mul_le_mul_right _ (by omega))) ?_ h
  rw [Rep.len, Nat.zero_add, cellsOf_setA hj a, hL]
theorem st_storeB1 (i : Nat) {t bt : TypeId} {x y : Operand} {g j o sz : Nat} {v : Value} {a : α} {L' : List Assn} (hx : evalF f x = .pointer (some ⟨g, 0 + j * sz + o * 1, none⟩)) (hi : L[i]? = some (Blk g bt (cellsOf xs))) (hy : evalF f y = v) (h1 : v.oneCell' = true) (hm : P.cellsOf t = 1) (hsz : Rep.sz α = sz) (hj : j < xs.length) (ho : o < sz)
    (ha : Rep.cells a = (Rep.cells (xs[j]'hj)).set o v) (hL : L.set i (Blk g bt (cellsOf (xs.set j a))) = L') (h : ExL P n ops rest Q f L') : ExL P n ops (⟨none, .store t x y, ty, pos, af, none⟩ :: rest) Q f L := by
  subst hsz
  have e := cellsOf_set (u := v) hj ho ha
  refine st_store1 i hx hy h1 hi hm (Nat.ble_eq_true_of_le (by
    rw [cellsOf_len, Nat.zero_add, Nat.mul_one]
    have : (j + 1) * Rep.sz α ≤ xs.length * Rep.sz α := Nat.mul_le_mul_right _ (by omega)
    rw [Nat.succ_mul] at this
    omega)) ?_ h
  rw [Nat.zero_add, Nat.mul_one, e, hL]
end
end Go.Proofs.Ytkcpgdkchglhhaa
/- Many parts of memory as one; one of them in focus; fields in the midst of a block. No condition. -/
namespace Go.Proofs.Ytkcpgdkchglhhaa
open Go.RowKit
set_option linter.unusedSimpArgs false
set_option linter.unusedVariables false
/-- All of these, each in a part of its own. -/
def Star : List Assn → Assn
  | [], _ => True
  | A :: As, h => ∃ h1 h2 : Frag, h = h1.add h2 ∧ h1.disj h2 ∧ A h1 ∧ Star As h2
theorem frag_assoc {a b c : Frag} : (a.add b).add c = a.add (b.add c) := by
  funext n
  unfold Frag.add
  cases a n <;> rfl
theorem Star.open1 {A : Assn} {As : List Assn} (L : List Assn) : Sub (A :: Star As :: L) (Star (A :: As) :: L) := fun w F ⟨h, ⟨h1, h2, he, hd, a, rs⟩, d, s⟩ => by
  subst he
  have d1 : h1.disj F := fun n => by
    rcases d n with x | x
    · left
      unfold Frag.add at x
      cases hh : h1 n with
      | none => rfl
      | some o => rw [hh] at x; cases x
    · exact .inr x
  have d2 : h2.disj F := fun n => by
    rcases d n with x | x
    · rcases hd n with y | y
      · left
        unfold Frag.add at x
        rw [y] at x
        exact x
      · exact .inl y
    · exact .inr x
  refine ⟨h1, a, d1, h2, rs, ?_, ?_⟩
  · rw [Frag.disj_add]; exact ⟨Frag.disj_symm hd, d2⟩
  · rw [← Frag.add_left_comm hd, ← frag_assoc]; exact s
theorem Star.close1 {A : Assn} {As : List Assn} (L : List Assn) : Sub (Star (A :: As) :: L) (A :: Star As :: L) := fun w F ⟨h1, a, d, h2, rs, d2, s⟩ => by
  rw [Frag.disj_add] at d2
  refine ⟨h1.add h2, ⟨h1, h2, rfl, Frag.disj_symm d2.1, a, rs⟩, ?_, ?_⟩
  · intro n
    rcases d n with x | x
    · rcases d2.2 n with y | y
      · left; unfold Frag.add; rw [x]; exact y
      · exact .inr y
    · exact .inr x
  · rw [frag_assoc, Frag.add_left_comm (Frag.disj_symm d2.1)]; exact s
theorem Star.nil (L : List Assn) : Sub (Star [] :: L) L := fun w F s => by
  refine ⟨fun _ => none, trivial, fun n => Or.inl rfl, ?_⟩
  have : Frag.add (fun _ => none) F = F := by funext n; rfl
  rw [this]; exact s
/-- One of them in front. -/
theorem Star.focus : ∀ {As : List Assn} {i : Nat} {A : Assn} (L : List Assn), As[i]? = some A → Sub (A :: Star (As.eraseIdx i) :: L) (Star As :: L)
  | [], _, _, _, h => by simp at h
  | B :: As, 0, A, L, h => by
    simp at h; subst h; exact Star.open1 L
  | B :: As, i + 1, A, L, h => by
    simp at h
    have h1 := Star.focus (As := As) (i := i) (A := A) L h
    refine Sub.trans ?_ (Star.open1 L)
    refine Sub.trans ?_ (Sub.cons B h1)
    refine Sub.trans (Sub.cons A (Star.close1 (A := B) (As := As.eraseIdx i) L)) ?_
    exact Sub.front (L := B :: A :: Star (As.eraseIdx i) :: L) 1 rfl
theorem Star.unfocus : ∀ {As : List Assn} {i : Nat} (A : Assn) (L : List Assn), i < As.length → Sub (Star (As.set i A) :: L) (A :: Star (As.eraseIdx i) :: L)
  | [], _, _, _, h => by simp at h
  | B :: As, 0, A, L, h => Star.close1 L
  | B :: As, i + 1, A, L, h => by
    have h1 := Star.unfocus (As := As) (i := i) A L (by simpa using h)
    refine Sub.trans (Star.close1 (A := B) (As := As.set i A) L) ?_
    refine Sub.trans (Sub.cons B h1) ?_
    refine Sub.trans (Sub.front (L := A :: B :: Star (As.eraseIdx i) :: L) 1 rfl) ?_
    exact Sub.cons A (Star.open1 (A := B) (As := As.eraseIdx i) L)
theorem Star.last {As : List Assn} (A : Assn) : ∀ (L : List Assn), Sub (Star (As ++ [A]) :: L) (A :: Star As :: L) := by
  induction As with
  | nil => exact fun L => Star.close1 L
  | cons B As ih =>
    intro L
    refine Sub.trans (Star.close1 (A := B) (As := As ++ [A]) L) ?_
    refine Sub.trans (Sub.cons B (ih L)) ?_
    refine Sub.trans (Sub.front (L := A :: B :: Star As :: L) 1 rfl) ?_
    exact Sub.cons A (Star.open1 L)
/-- Two as one. -/
def Two (A B : Assn) : Assn := Star [A, B]
theorem Two.opn (A B : Assn) (L : List Assn) : Sub (A :: B :: L) (Two A B :: L) :=
  Sub.trans (Sub.cons A (Sub.trans (Sub.cons B (Sub.drop _ (Sub.refl L))) (Star.open1 (A := B) (As := []) L))) (Star.open1 (A := A) (As := [B]) L)
theorem Two.cls (A B : Assn) (L : List Assn) : Sub (Two A B :: L) (A :: B :: L) :=
  Sub.trans (Star.close1 (A := A) (As := [B]) L) (Sub.cons A (Sub.trans (Star.close1 (A := B) (As := []) L) (Sub.cons B (Star.nil L))))
/-- A pointer as a thing of a slice. -/
structure Ptr where
  g : Nat
deriving DecidableEq
instance : Rep Ptr := ⟨1, fun p => [.pointer (some ⟨p.g, 0, none⟩)], by decide, fun _ => rfl, fun _ => rfl⟩
section
variable {P : Program} {n : Nat} {ops : Array Oper} {Q : Post} {f : Nat → Value} {L : List Assn} {rest : List Oper} {d : Nat} {ty : TypeId} {pos : String} {af : Array Edge} {gd : Option (Nat × Bool)}
variable {α : Type} [Rep α] {xs : List α}
theorem mid_get {pre post : List Value} {j q : Nat} (hj : j < xs.length) (hq : q < Rep.sz α) : (pre ++ cellsOf xs ++ post)[pre.length + j * Rep.sz α + q]? = (Rep.cells (xs[j]'hj))[q]? := by
  have hl := cellsOf_len xs
  have hb : j * Rep.sz α + q < xs.length * Rep.sz α := by
    have : (j + 1) * Rep.sz α ≤ xs.length * Rep.sz α := Nat.mul_le_mul_right _ (by omega)
    rw [Nat.succ_mul] at this
    omega
  rw [List.append_assoc, List.getElem?_append_right (by omega), show pre.length + j * Rep.sz α + q - pre.length = j * Rep.sz α + q by omega, List.getElem?_append_left (by rw [hl]; exact hb)]
  have := cellsOf_get1 hj
  rw [← this, List.getElem?_take, if_pos hq, List.getElem?_drop]
/-- A thing in the midst of a block, whole. -/
theorem vl_loadMA (i : Nat) {t bt : TypeId} {x : Operand} {g j o sz : Nat} {cs pre post : List Value} (xs : List α) (hx : evalF f x = .pointer (some ⟨g, o + j * sz, none⟩)) (hi : L[i]? = some (Blk g bt cs)) (he : cs = pre ++ cellsOf xs ++ post) (ho : pre.length = o) (hA : aggB P t = some true) (hm : P.cellsOf t = sz) (hsz : Rep.sz α = sz) (hj : j < xs.length) :
    Val P ⟨some d, .load t x, ty, pos, af, gd⟩ f L (.agg (Rep.cells (xs[j]'hj)).toArray) := fun F w s => by
  subst he; subst ho; subst hsz
  have := run_loadVarA (P := P) w (t := t) (a := ⟨g, pre.length + j * Rep.sz α, none⟩) (cs := Rep.cells (xs[j]'hj)) hA (by rw [hm, Rep.len]) (by rw [Rep.len]; exact Rep.pos) (fun k u hk => by
    rw [addr_add]
    have hk2 : k < Rep.sz α := by have := (List.getElem?_eq_some_iff.1 hk).1; rwa [Rep.len] at this
    exact blk_cell hi (by rw [mid_get hj hk2]; exact hk) s)
  simp [execOp, hx, Instr.loadAt, Instr.sureAddr, this]
/-- One cell of it. -/
theorem vl_loadM1 (i : Nat) {t bt : TypeId} {x : Operand} {g j o q sz : Nat} {cs pre post : List Value} {v : Value} (xs : List α) (hx : evalF f x = .pointer (some ⟨g, o + j * sz + q, none⟩)) (hi : L[i]? = some (Blk g bt cs)) (he : cs = pre ++ cellsOf xs ++ post) (ho : pre.length = o) (hA : aggB P t = some false) (hsz : Rep.sz α = sz) (hj : j < xs.length) (hq : q < sz) (hv : (Rep.cells (xs[j]'hj))[q]? = some v) :
    Val P ⟨some d, .load t x, ty, pos, af, gd⟩ f L v := fun F w s => by
  subst he; subst ho; subst hsz
  have := blk_cell hi (o := pre.length + j * Rep.sz α + q) (v := v) (by rw [mid_get hj hq]; exact hv) s
  simp [execOp, hx, Instr.loadAt, Instr.sureAddr, run_loadVar1 w hA this]
theorem mid_set {pre post : List Value} {j : Nat} (hj : j < xs.length) (a : α) : (pre ++ cellsOf xs ++ post).take (pre.length + j * Rep.sz α) ++ Rep.cells a ++ (pre ++ cellsOf xs ++ post).drop (pre.length + j * Rep.sz α + Rep.sz α) = pre ++ cellsOf (xs.set j a) ++ post := by
  have hl := cellsOf_len xs
  have hb : j * Rep.sz α + Rep.sz α ≤ xs.length * Rep.sz α := by
    have : (j + 1) * Rep.sz α ≤ xs.length * Rep.sz α := Nat.mul_le_mul_right _ (by omega)
    rwa [Nat.succ_mul] at this
  rw [← cellsOf_setA hj a, List.append_assoc pre, List.take_append, List.drop_append, List.take_of_length_le (show pre.length ≤ pre.length + j * Rep.sz α by omega), List.drop_eq_nil_of_le (show pre.length ≤ pre.length + j * Rep.sz α + Rep.sz α by omega)]
  rw [show pre.length + j * Rep.sz α - pre.length = j * Rep.sz α by omega, show pre.length + j * Rep.sz α + Rep.sz α - pre.length = j * Rep.sz α + Rep.sz α by omega, List.take_append_of_le_length (by omega), List.drop_append_of_le_length (by omega)]
  simp [List.append_assoc]
theorem st_storeMA (i : Nat) {t bt : TypeId} {x y : Operand} {g j o sz : Nat} {cs pre post : List Value} (xs : List α) {a : α} {L' : List Assn} (hx : evalF f x = .pointer (some ⟨g, o + j * sz, none⟩)) (hi : L[i]? = some (Blk g bt cs)) (he : cs = pre ++ cellsOf xs ++ post) (ho : pre.length = o) (hy : evalF f y = .agg (Rep.cells a).toArray) (hm : P.cellsOf t = sz) (hsz : Rep.sz α = sz) (hj : j < xs.length)
    (hL : L.set i (Blk g bt (pre ++ cellsOf (xs.set j a) ++ post)) = L') (h : ExL P n ops rest Q f L') : ExL P n ops (⟨none, .store t x y, ty, pos, af, none⟩ :: rest) Q f L := by
  subst he; subst ho; subst hsz
  refine st_storeA i hx hy (Rep.one a) hi (by rw [hm, Rep.len]) (by rw [Rep.len]; exact Nat.ble_eq_true_of_le (show 0 + 1 ≤ _ from Rep.pos)) (by
    rw [Rep.len]
    have hl := cellsOf_len xs
    have hb : (j + 1) * Rep.sz α ≤ xs.length * Rep.sz α := Nat.mul_le_mul_right _ (by omega)
    rw [Nat.succ_mul] at hb
    exact Nat.ble_eq_true_of_le (by simp only [List.length_append]; omega)) ?_ h
  rw [Rep.len, mid_set hj a, hL]
/-- a[:] of an array in the midst of a block. -/
theorem vl_slArrO {t e : TypeId} {x : Operand} {g o m sz : Nat} (hx : evalF f x = .pointer (some ⟨g, o, none⟩)) (hu : P.underlying t = some (.array m e)) (hs : P.cellsOf e = sz) (hp : Nat.blt 0 sz = true) (hm : Nat.blt 0 m = true) :
    Val P ⟨some d, .slice t x none none none, ty, pos, af, gd⟩ f L (.slice (some ⟨g, o, none⟩) m m) := fun F w s => by
  have hm := Nat.le_of_ble_eq_true hm
  simp [execOp, hx, Instr.sliceAt, run_underlying hu, Instr.sureAddr, Instr.sliceBounds, run_sizeOf' w hs (Nat.le_of_ble_eq_true hp), show ¬ m = 0 by omega, addr_add]
theorem mid_over {pre post : List Value} {ys : List α} (hy : ys.length ≤ xs.length) : (pre ++ cellsOf xs ++ post).take pre.length ++ cellsOf ys ++ (pre ++ cellsOf xs ++ post).drop (pre.length + (cellsOf ys).length) = pre ++ cellsOf (ys ++ xs.drop ys.length) ++ post := by
  have hl := cellsOf_len xs
  have hl2 := cellsOf_len ys
  have hb : ys.length * Rep.sz α ≤ xs.length * Rep.sz α := Nat.mul_le_mul_right _ hy
  rw [cellsOf_append, ← cellsOf_drop, List.append_assoc pre, List.take_left, List.drop_append, List.drop_eq_nil_of_le (show pre.length ≤ pre.length + (cellsOf ys).length by omega), show pre.length + (cellsOf ys).length - pre.length = (cellsOf ys).length by omega, List.drop_append_of_le_length (by omega), hl2]
  simp [List.append_assoc]
/-- copy(a[:], u), where a stands in the midst of a block. -/
theorem st_copyM (i : Nat) {dd : Option Nat} {x y : Operand} {u : Value} {t t2 e bt : TypeId} {sz g o m c : Nat} {cs pre post : List Value} (xs ys : List α) (hd : dstOk n dd = true) (hx : evalF f x = .slice (some ⟨g, o, none⟩) m c) (hi : L[i]? = some (Blk g bt cs)) (he : cs = pre ++ cellsOf xs ++ post) (ho : pre.length = o) (hm : xs.length = m) (hy : evalF f y = u) (hr : RdT L u ys) (hle : ys.length ≤ m)
    (ht : P.underlying t = some (.slice e)) (hs : P.cellsOf e = sz) (hsz : Rep.sz α = sz)
    (h : ExL P n ops rest Q (updo f dd (.int .i64 (ys.length : Nat))) (L.set i (Blk g bt (pre ++ cellsOf (ys ++ xs.drop ys.length) ++ post)))) : ExL P n ops (⟨dd, .call ⟨.builtin .copy, #[x, y], #[t, t2]⟩, ty, pos, af, none⟩ :: rest) Q f L := by
  subst he; subst ho; subst hm; subst hsz; subst hy
  have hp : 0 < Rep.sz α := Rep.pos
  refine ExL.eff rfl hd (R := fun r L' => r = .int .i64 (ys.length : Nat) ∧ L' = L.set i (Blk g bt (pre ++ cellsOf (ys ++ xs.drop ys.length) ++ post))) (fun F w s => ?_) (fun v' L' e => by obtain ⟨rfl, rfl⟩ := e; exact h)
  obtain ⟨hl, a, cap, hev, hmc, hcm, han, hcell⟩ := hr w F s
  have hmin : Nat.min ys.length xs.length = ys.length := Nat.min_eq_left hle
  have hmin2 : min ys.length xs.length = ys.length := Nat.min_eq_left hle
  cases a with
  | none =>
    have h0 : ys.length = 0 := by have := han rfl; omega
    have e0 : ys = [] := List.eq_nil_of_length_eq_zero h0
    refine ⟨_, w, _, .inl ?_, Rest.refl w, ?_, rfl, rfl⟩
    · simp [execOp, resolve, invoke, builtin, hx, hev, Builtin.copy_, run_underlying ht, Builtin.lenOf, Builtin.firstCells, run_sizeOf' w hs hp, h0, loadCells, loadCellsFrom, storeCells, goInt]
    · subst e0
      have e1 : pre ++ cellsOf ([] ++ xs.drop ([] : List α).length) ++ post = pre ++ cellsOf xs ++ post := by simp
      rw [e1, list_set_same hi]; exact s
  | some ad =>
    have hload := run_loadCells_list (P := P) w ad (cellsOf ys) (fun j u hj => hcell ad rfl j u hj)
    rw [cellsOf_len] at hload
    have hle2 : ys.length * Rep.sz α ≤ xs.length * Rep.sz α := Nat.mul_le_mul_right _ hle
    obtain ⟨w', hrun, hre, hs2⟩ := run_storeCells_blk (P := P) (cellsOf ys) 0 pre.length w L (pre ++ cellsOf xs ++ post) hi (by simp only [List.length_append, cellsOf_len]; omega) (fun v hv => cellsOf_all _ v hv) s
    rw [Nat.add_zero, mid_over hle] at hs2
    refine ⟨_, w', _, .inl ?_, hre, hs2, rfl, rfl⟩
    simp [execOp, resolve, invoke, builtin, hx, hev, Builtin.copy_, run_underlying ht, Builtin.lenOf, Builtin.firstCells, run_sizeOf' w hs hp, hmin, hmin2, hload, hrun, goInt]
/-- A thing of a row of one's own is written, whole. -/
theorem st_storeRA (r : Nat) {t e : TypeId} {x y : Operand} {v : Value} {i sz : Nat} {a : α} {L' : List Assn} (hx : evalF f x = elt v (i * sz + 0)) (hy : evalF f y = .agg (Rep.cells a).toArray) (hi : L[r]? = some (RowT v e xs)) (hm : P.cellsOf t = sz) (hsz : Rep.sz α = sz) (hj : i < xs.length)
    (hL : L.set r (RowT v e (xs.set i a)) = L') (h : ExL P n ops rest Q f L') : ExL P n ops (⟨none, .store t x y, ty, pos, af, none⟩ :: rest) Q f L := by
  subst hsz; subst hL
  have hp : 0 < Rep.sz α := Rep.pos
  refine ExL.eff rfl rfl (R := fun _ L2 => L2 = L.set r (RowT v e (xs.set i a))) (fun F w s => ?_) (fun v L2 e => by subst e; exact h)
  have hb : (i + 1) * Rep.sz α ≤ xs.length * Rep.sz α := Nat.mul_le_mul_right _ (by omega)
  rw [Nat.succ_mul] at hb
  obtain ⟨g, w', ⟨c, hv⟩, hrun, hre, hs2⟩ := row_write (P := P) (w := w) (o := i * Rep.sz α) (us := Rep.cells a) (xs' := xs.set i a) hi (by rw [Rep.len]; omega) (by rw [Rep.len]; exact hp) (Rep.one a) (by rw [Rep.len]; exact cellsOf_setA hj a) (by simp) s
  refine ⟨_, w', _, .inr ⟨?_, rfl⟩, hre, hs2, rfl⟩
  subst hv
  simp only [elt, addr_add, Nat.zero_add, Nat.add_zero] at hx
  simp [execOp, hx, hy, Instr.storeAt, Instr.sureAddr, storeVar, Value.cells, run_sizeOf' w hm hp, hrun, Rep.len]
end
end Go.Proofs.Ytkcpgdkchglhhaa
/- The hub's post, in plain words. No condition. -/
namespace Go.Proofs.Ytkcpgdkchglhhaa
open Go.RowKit
set_option linter.unusedSimpArgs false
set_option linter.unusedVariables false
/-- A shelf: all that was put, how many of it were cut. -/
structure Sf where
  all : List Ev
  cut : Nat
noncomputable def Sf.put (most : Int) (s : Sf) (l : List Ev) : Int × Sf := ((putR most s.all.length (s.all.length - s.cut : Nat) l).1, ⟨s.all ++ (putR most s.all.length (s.all.length - s.cut : Nat) l).2, s.cut⟩)
def Sf.to (s : Sf) (n : Int) : Sf := ⟨s.all, (max (s.cut : Int) (min n s.all.length)).toNat⟩
def Sf.Ok (s : Sf) : Prop := s.cut ≤ s.all.length
theorem Sf.to_ok {s : Sf} (h : s.Ok) (n : Int) : (s.to n).Ok := by
  unfold Sf.Ok Sf.to at *
  simp only
  omega
def leastR (told : List Clk) (s : Nat) : Int := (told.map (·.get s)).foldl min ((told.headD Clk.zero).get s)
structure PSt where
  told : List Clk
  sf : List Sf
def Sf.none : Sf := ⟨[], 0⟩
def PSt.cutAt (st : PSt) (s : Nat) : PSt := ⟨st.told, st.sf.set s ((st.sf.getD s Sf.none).to (leastR st.told s))⟩
def PSt.cutN (st : PSt) : Nat → PSt
  | 0 => st
  | k + 1 => (st.cutN k).cutAt k
theorem PSt.cutN_told (st : PSt) : ∀ k, (st.cutN k).told = st.told
  | 0 => rfl
  | k + 1 => PSt.cutN_told st k
theorem PSt.cutN_len (st : PSt) : ∀ k, (st.cutN k).sf.length = st.sf.length
  | 0 => rfl
  | k + 1 => by
    show ((st.cutN k).sf.set _ _).length = _
    rw [List.length_set, PSt.cutN_len st k]
/-- Such a number names one of them. -/
def PSt.has (st : PSt) (r : Int) : Prop := 0 ≤ r ∧ r < st.sf.length
instance (st : PSt) (r : Int) : Decidable (st.has r) := by unfold PSt.has; exact inferInstance
open Classical in
noncomputable def PSt.push (most : Int) (st : PSt) (r : Int) (l : List Ev) : Int × Int × PSt :=
  if ¬ st.has r ∨ ∃ e ∈ l, e.r ≠ r then (0, 23, st) else
  let p := (st.sf.getD r.toNat Sf.none).put most l
  if p.1 ≠ 0 then (0, p.1, st) else (p.2.all.length, 0, (⟨st.told, st.sf.set r.toNat p.2⟩ : PSt).cutAt r.toNat)
def PSt.ack (st : PSt) (r : Int) (c : Clk) : Int × PSt :=
  if ¬ st.has r then (23, st) else (0, (⟨st.told.set r.toNat ((st.told.getD r.toNat Clk.zero).join c), st.sf⟩ : PSt).cutN st.sf.length)
/-- What of the first k shelves r gets, who has c. -/
def PSt.getN (st : PSt) (r : Int) (c : Clk) : Nat → List Ev
  | 0 => []
  | k + 1 => if (k : Int) ≠ r then st.getN r c k ++ above (c.get k) ((st.sf.getD k Sf.none).all.drop (st.sf.getD k Sf.none).cut) else st.getN r c k
def PSt.fetch (st : PSt) (r : Int) (c : Clk) : List Ev × Int := if ¬ st.has r then ([], 23) else (st.getN r c st.sf.length, 0)
/-- How the hub stands. -/
structure Hs where
  base : Clk
  len : Clk
  a0 : Clk
  a1 : Clk
  a2 : Clk
  a3 : Clk
  a4 : Clk
deriving DecidableEq
def clkOf (f : Nat → Int) : Clk := ⟨f 0, f 1, f 2, f 3, f 4⟩
theorem clkOf_get (f : Nat → Int) (i : Nat) (h : i < 5) : (clkOf f).get i = f i := by
  match i, h with
  | 0, _ => rfl
  | 1, _ => rfl
  | 2, _ => rfl
  | 3, _ => rfl
  | 4, _ => rfl
def PSt.baseF (st : PSt) (i : Nat) : Int := if i < st.sf.length then ((st.sf.getD i Sf.none).cut : Int) else 0
def PSt.lenF (st : PSt) (i : Nat) : Int := if i < st.sf.length then ((st.sf.getD i Sf.none).all.length : Int) else 0
def PSt.site (st : PSt) : Hs := ⟨clkOf st.baseF, clkOf st.lenF, st.told.getD 0 Clk.zero, st.told.getD 1 Clk.zero, st.told.getD 2 Clk.zero, st.told.getD 3 Clk.zero, st.told.getD 4 Clk.zero⟩
instance : Rep Hs := ⟨36, fun h => .bool true :: (Rep.cells h.base ++ Rep.cells h.len ++ Rep.cells h.a0 ++ Rep.cells h.a1 ++ Rep.cells h.a2 ++ Rep.cells h.a3 ++ Rep.cells h.a4), by decide, fun _ => rfl, fun _ => rfl⟩
/-- A shelf where it lies. -/
structure Sh where
  g : Nat
  v : Value
  one : v.oneCell' = true
  sf : Sf
@[reducible] def ShB (most : Int) (s : Sh) : Assn := ShO s.g most s.sf.cut s.v
@[reducible] def ShC (s : Sh) : Assn := Evs_ s.v (s.sf.all.drop s.sf.cut)
@[reducible] def RShB (most : Int) (s : Sh) : Assn := RShO s.g most s.sf.cut s.v
@[reducible] def RShC (s : Sh) : Assn := Evs_ s.v s.sf.all
def StarOf (B C : Sh → Assn) (ss : List Sh) : Assn := Star (ss.map fun s => Two (B s) (C s))
def StarBut (B C : Sh → Assn) (ss : List Sh) (i : Nat) : Assn := Star ((ss.map fun s => Two (B s) (C s)).eraseIdx i)
theorem StarOf.focus {B C : Sh → Assn} {ss : List Sh} {i : Nat} (L : List Assn) (h : i < ss.length) : Sub (B (ss[i]'h) :: C (ss[i]'h) :: StarBut B C ss i :: L) (StarOf B C ss :: L) :=
  Sub.trans (Two.opn _ _ _) (Star.focus (As := ss.map fun s => Two (B s) (C s)) (i := i) L (by simp [h]))
theorem StarOf.unfocus {B C : Sh → Assn} {ss : List Sh} {i : Nat} (x : Sh) (L : List Assn) (h : i < ss.length) : Sub (StarOf B C (ss.set i x) :: L) (B x :: C x :: StarBut B C ss i :: L) := by
  have h1 := Star.unfocus (As := ss.map fun s => Two (B s) (C s)) (i := i) (Two (B x) (C x)) L (by simpa using h)
  unfold StarOf
  rw [List.map_set]
  exact Sub.trans h1 (Two.cls _ _ _)
theorem StarOf.back {B C : Sh → Assn} {ss : List Sh} {i : Nat} (L : List Assn) (h : i < ss.length) : Sub (StarOf B C ss :: L) (B (ss[i]'h) :: C (ss[i]'h) :: StarBut B C ss i :: L) := by
  have := StarOf.unfocus (B := B) (C := C) (ss := ss) (i := i) (ss[i]'h) L h
  rwa [List.set_getElem_self] at this
theorem StarOf.last {B C : Sh → Assn} {ss : List Sh} (x : Sh) (L : List Assn) : Sub (StarOf B C (ss ++ [x]) :: L) (B x :: C x :: StarOf B C ss :: L) := by
  unfold StarOf
  rw [List.map_append]
  exact Sub.trans (Star.last (As := ss.map fun s => Two (B s) (C s)) (Two (B x) (C x)) L) (Two.cls _ _ _)
theorem StarOf.nil {B C : Sh → Assn} (L : List Assn) : Sub (StarOf B C [] :: L) L := Star.nil L
end Go.Proofs.Ytkcpgdkchglhhaa
/- Package post, walked: has, cut, each, Site. No condition. -/
namespace Go.Proofs.Ytkcpgdkchglhhaa
open Go.RowKit
set_option linter.unusedSimpArgs false
set_option linter.unusedVariables false
@[reducible] def Po (g : Nat) (vs vt : Value) : Assn := Blk g 61 [vs, vt]
@[reducible] def Ptrs (vs : Value) (ss : List Sh) : Assn := RowT vs 62 (ss.map fun s => Ptr.mk s.g)
@[reducible] def Told (vt : Value) (told : List Clk) : Assn := RowT vt 33 told
@[reducible] def Shs (most : Int) (ss : List Sh) : Assn := StarOf (ShB most) ShC ss
@[reducible] def ShsBut (most : Int) (ss : List Sh) (i : Nat) : Assn := StarBut (ShB most) ShC ss i
theorem getD5 (k : Clk) (i : Nat) : [k.a, k.b, k.c, k.d, k.e].getD i 0 = k.get i := by
  match i with
  | 0 => rfl
  | 1 => rfl
  | 2 => rfl
  | 3 => rfl
  | 4 => rfl
  | i + 5 => simp [Clk.get]
theorem clk_cell (c : Clk) (q : Nat) (hq : q < 5) : (Rep.cells c)[q]? = some (.int .i64 (c.get q)) := by
  match q, hq with
  | 0, _ => rfl
  | 1, _ => rfl
  | 2, _ => rfl
  | 3, _ => rfl
  | 4, _ => rfl
theorem vl_loadSC {P : Program} {f : Nat → Value} {L : List Assn} {d : Nat} {ty : TypeId} {pos : String} {af : Array Edge} {gd : Option (Nat × Bool)} {v : Value} {xs : List Clk} {t : TypeId} {x : Operand} {i q : Nat} (hx : evalF f x = elt v (i * 5 + (0 + q * 1))) (hA : aggB P t = some false) (hr : RdT L v xs) (hi : i < xs.length) (hq : q < 5) :
    Val P ⟨some d, .load t x, ty, pos, af, gd⟩ f L (.int .i64 ((xs[i]'hi).get q)) := by
  rw [show 0 + q * 1 = q by omega] at hx
  exact vl_loadS1 (sz := 5) hx hA hr hi rfl (clk_cell _ q hq)
/-- The least of the first k. -/
def leastK (told : List Clk) (s k : Nat) : Int := ((told.take k).map (·.get s)).foldl min ((told.headD Clk.zero).get s)
theorem leastK_succ {told : List Clk} {s k : Nat} (h : k < told.length) : leastK told s (k + 1) = min (leastK told s k) ((told[k]'h).get s) := by
  unfold leastK
  rw [List.take_succ_eq_append_getElem h, List.map_append, List.foldl_append]
  rfl
theorem leastK_all (told : List Clk) (s : Nat) : leastK told s told.length = leastR told s := by unfold leastK leastR; rw [List.take_length]
theorem leastK_zero {told : List Clk} (s : Nat) (h : 0 < told.length) : (told[0]'h).get s = leastK told s 0 := by
  match told, h with
  | c :: t, _ => rfl
theorem map_set_g {ss : List Sh} {s : Nat} {x : Sh} (hs : s < ss.length) (hg : x.g = (ss[s]'hs).g) : (ss.set s x).map (fun s => Ptr.mk s.g) = ss.map (fun s => Ptr.mk s.g) := by
  rw [List.map_set, hg]
  have h : ∀ (l : List Ptr) (h : s < l.length), l.set s (l[s]'h) = l := fun l h => List.set_getElem_self h
  have := h (ss.map fun s => Ptr.mk s.g) (by simpa using hs)
  rwa [List.getElem_map] at this
theorem post_opn {g : Nat} {vs vt : Value} {most : Int} {ss : List Sh} {told : List Clk} {s : Nat} (hs : s < ss.length) (M : List Assn) : Sub (ShB most (ss[s]'hs) :: ShC (ss[s]'hs) :: ShsBut most ss s :: Po g vs vt :: Ptrs vs ss :: Told vt told :: M) (Po g vs vt :: Ptrs vs ss :: Told vt told :: Shs most ss :: M) :=
  Sub.fr [3] rfl (StarOf.focus (B := ShB most) (C := ShC) _ hs)
theorem post_put {g : Nat} {vs vt : Value} {most : Int} {ss : List Sh} {told : List Clk} {s : Nat} {x : Sh} (hs : s < ss.length) (hg : x.g = (ss[s]'hs).g) (M : List Assn) : Sub (Po g vs vt :: Ptrs vs (ss.set s x) :: Told vt told :: Shs most (ss.set s x) :: M) (ShB most x :: ShC x :: ShsBut most ss s :: Po g vs vt :: Ptrs vs ss :: Told vt told :: M) := by
  refine Sub.trans ?_ (StarOf.unfocus (B := ShB most) (C := ShC) x _ hs)
  unfold Ptrs
  rw [map_set_g hs hg]
  exact Sub.fr [3, 3, 3] rfl (Sub.refl _)
theorem post_cls {g : Nat} {vs vt : Value} {most : Int} {ss : List Sh} {told : List Clk} {s : Nat} (hs : s < ss.length) (M : List Assn) : Sub (Po g vs vt :: Ptrs vs ss :: Told vt told :: Shs most ss :: M) (ShB most (ss[s]'hs) :: ShC (ss[s]'hs) :: ShsBut most ss s :: Po g vs vt :: Ptrs vs ss :: Told vt told :: M) := by
  have := post_put (g := g) (vs := vs) (vt := vt) (most := most) (told := told) hs (x := ss[s]'hs) rfl M
  rwa [List.set_getElem_self] at this
set_option maxRecDepth 20000 attribute [local irreducible] Ex ExL Fn thn inb rnd fin meet Tab Mix mxEnd Val Sats RdT Rd RowT Row Blk Sub Fac ResV RVal Evs subs subs3 Hid Capd
attribute [local irreducible] StarOf StarBut
theorem post_has (g : Nat) (vs vt : Value) (ss : List Sh) (r : Int) (M : List Assn) : Fn Try.prog 28 #[.pointer (some ⟨g, 0, none⟩), .int .i64 r] (Po g vs vt :: Ptrs vs ss :: M)
    fun v L' => v = .bool (decide (0 ≤ r ∧ r < ss.length)) ∧ L' = Po g vs vt :: Ptrs vs ss :: M := by
  have hml : (ss.map fun s => Ptr.mk s.g).length = ss.length := List.length_map ..
  refine Fn.of_ex Try.func28 rfl Try.ntmps28 rfl ?_
  by_cases h0 : 0 ≤ r
  · by_cases h1 : r < ss.length
    · rw [decide_eq_true ⟨h0, h1⟩]
      (repeat' (first | refine ExL.val rJ rJ rJ rV ?_ | (first | refine Ex.seq ?_ | refine Ex.region ?_ | refine ExL.nil ?_ | refine thn_n ?_ | refine Ex.cond_t rJ ?_ | refine Ex.cond_f rJ ?_ | refine Ex.skip ?_ | refine Ex.block ?_ | refine Ex.exit ?_ | refine Ex.ret ?_ | refine thn_exit ?_ | refine thn_ret ?_ | refine inb_n ?_ | refine inb_hit rJ ?_ | refine inb_miss rJ ?_ | refine inb_ret ?_ | refine rnd_exit ?_ | refine rnd_ret ?_ | refine meet_ret ?_ | refine meet_exit ?_) | (apply exlGuard; first | refine ExL.gskip rJ rJ rJ rJ rJ rJ ?_ | refine ExL.gtake rJ rJ rJ rJ ?_ | refine ExL.gskipU rJ rJ rJ rJ ?_ | (refine ExL.gsplit rJ rJ rJ (fun h => ?_) (fun h => ?_) <;> try (exfalso; omega))) | (first | refine st_new_ rJ rE (fun g => ?_) | refine st_boxA rJ rJ (fun g => ?_) | refine st_box1 rJ rE rN (fun g => ?_) | (apply exlStore; first | refine st_store1_ _ rJ rK rE rN rJ rJ rE rE ?_ | refine st_storeW_ _ rJ rK rJ rC rJ rJ rJ rE ?_ | refine st_storeR _ rJ rK rJ rE rJ rJ rE ?_ | refine st_storeA_ _ rJ rK rJ rC rJ rJ rJ rE rE ?_ | refine st_storeB _ rJ rJ rO rO rK rJ rO ?_ | refine st_storeG _ rJ rK rE rN rJ rO (fun cs hcs => ?_)) | refine st_slice0 rJ rJ rJ rJ (fun g => ?_) | refine st_slice1T rJ rJ rJ rJ (fun g => ?_) | refine st_makeT rJ rJ rJ rJ rE rJ rO rO (fun v o => ?_) | (apply exlCopy; first | refine st_copyW _ rJ rE rK rE rD rJ rE rJ (fun zs hzs => ?_) | refine st_copyS _ rJ rJ rK rE rD rJ rE rJ rO rO (fun zs hzs => ?_)) | refine st_sliceB rJ rJ rJ rJ rJ rJ rJ rL rE rE rJ (fun g => ?_) | refine st_slice1I rJ rJ rJ rJ rJ rJ (fun g => ?_) | refine st_slice1B rJ rJ rJ rJ rJ rJ rO rO (fun g => ?_) | refine st_slice1S rJ rJ rJ rJ rJ rJ (fun g => ?_) | refine st_slice2B rJ rJ rJ rJ rJ rJ rJ rO rO rO rO (fun g => ?_) | (apply exlConv; first | refine st_bytes rJ rJ rJ rJ rJ rO (fun v o => ?_) | refine st_mark _ rJ rJ rK rJ rJ rJ ?_) | refine st_clear _ (0 : UInt8) rJ rK rJ rJ rJ rJ rJ rO ?_ | refine st_clearT _ rJ rK rO rJ rJ rO rE ?_ | (apply exlAppend; first | refine st_app0 rJ rJ rE rD rJ rE rJ rE rJ rJ rJ rO (fun v o => ?_) | refine st_app _ rJ rE rK rE rD rJ rE rJ rE rJ rJ rJ rO (fun v o => ?_) | refine st_shift _ rJ rJ rJ rK rO rJ rJ rJ rO rO rE ?_)) | (refine Ex.cond_d rJ (fun h => ?_) (fun h => ?_) <;> try (exfalso; omega))))
      (first | refine fin_ret rS ?_ | refine fin_norm rS ?_)
      exact ⟨_, rB, rfl, rfl⟩
    · rw [decide_eq_false (fun h => h1 h.2)]
      (repeat' (first | refine ExL.val rJ rJ rJ rV ?_ | (first | refine Ex.seq ?_ | refine Ex.region ?_ | refine ExL.nil ?_ | refine thn_n ?_ | refine Ex.cond_t rJ ?_ | refine Ex.cond_f rJ ?_ | refine Ex.skip ?_ | refine Ex.block ?_ | refine Ex.exit ?_ | refine Ex.ret ?_ | refine thn_exit ?_ | refine thn_ret ?_ | refine inb_n ?_ | refine inb_hit rJ ?_ | refine inb_miss rJ ?_ | refine inb_ret ?_ | refine rnd_exit ?_ | refine rnd_ret ?_ | refine meet_ret ?_ | refine meet_exit ?_) | (apply exlGuard; first | refine ExL.gskip rJ rJ rJ rJ rJ rJ ?_ | refine ExL.gtake rJ rJ rJ rJ ?_ | refine ExL.gskipU rJ rJ rJ rJ ?_ | (refine ExL.gsplit rJ rJ rJ (fun h => ?_) (fun h => ?_) <;> try (exfalso; omega))) | (first | refine st_new_ rJ rE (fun g => ?_) | refine st_boxA rJ rJ (fun g => ?_) | refine st_box1 rJ rE rN (fun g => ?_) | (apply exlStore; first | refine st_store1_ _ rJ rK rE rN rJ rJ rE rE ?_ | refine st_storeW_ _ rJ rK rJ rC rJ rJ rJ rE ?_ | refine st_storeR _ rJ rK rJ rE rJ rJ rE ?_ | refine st_storeA_ _ rJ rK rJ rC rJ rJ rJ rE rE ?_ | refine st_storeB _ rJ rJ rO rO rK rJ rO ?_ | refine st_storeG _ rJ rK rE rN rJ rO (fun cs hcs => ?_)) | refine st_slice0 rJ rJ rJ rJ (fun g => ?_) | refine st_slice1T rJ rJ rJ rJ (fun g => ?_) | refine st_makeT rJ rJ rJ rJ rE rJ rO rO (fun v o => ?_) | (apply exlCopy; first | refine st_copyW _ rJ rE rK rE rD rJ rE rJ (fun zs hzs => ?_) | refine st_copyS _ rJ rJ rK rE rD rJ rE rJ rO rO (fun zs hzs => ?_)) | refine st_sliceB rJ rJ rJ rJ rJ rJ rJ rL rE rE rJ (fun g => ?_) | refine st_slice1I rJ rJ rJ rJ rJ rJ (fun g => ?_) | refine st_slice1B rJ rJ rJ rJ rJ rJ rO rO (fun g => ?_) | refine st_slice1S rJ rJ rJ rJ rJ rJ (fun g => ?_) | refine st_slice2B rJ rJ rJ rJ rJ rJ rJ rO rO rO rO (fun g => ?_) | (apply exlConv; first | refine st_bytes rJ rJ rJ rJ rJ rO (fun v o => ?_) | refine st_mark _ rJ rJ rK rJ rJ rJ ?_) | refine st_clear _ (0 : UInt8) rJ rK rJ rJ rJ rJ rJ rO ?_ | refine st_clearT _ rJ rK rO rJ rJ rO rE ?_ | (apply exlAppend; first | refine st_app0 rJ rJ rE rD rJ rE rJ rE rJ rJ rJ rO (fun v o => ?_) | refine st_app _ rJ rE rK rE rD rJ rE rJ rE rJ rJ rJ rO (fun v o => ?_) | refine st_shift _ rJ rJ rJ rK rO rJ rJ rJ rO rO rE ?_)) | (refine Ex.cond_d rJ (fun h => ?_) (fun h => ?_) <;> try (exfalso; omega))))
      (first | refine fin_ret rS ?_ | refine fin_norm rS ?_)
      exact ⟨_, rB, rfl, rfl⟩
  · rw [decide_eq_false (fun h => h0 h.1)]
    (repeat' (first | refine ExL.val rJ rJ rJ rV ?_ | (first | refine Ex.seq ?_ | refine Ex.region ?_ | refine ExL.nil ?_ | refine thn_n ?_ | refine Ex.cond_t rJ ?_ | refine Ex.cond_f rJ ?_ | refine Ex.skip ?_ | refine Ex.block ?_ | refine Ex.exit ?_ | refine Ex.ret ?_ | refine thn_exit ?_ | refine thn_ret ?_ | refine inb_n ?_ | refine inb_hit rJ ?_ | refine inb_miss rJ ?_ | refine inb_ret ?_ | refine rnd_exit ?_ | refine rnd_ret ?_ | refine meet_ret ?_ | refine meet_exit ?_) | (apply exlGuard; first | refine ExL.gskip rJ rJ rJ rJ rJ rJ ?_ | refine ExL.gtake rJ rJ rJ rJ ?_ | refine ExL.gskipU rJ rJ rJ rJ ?_ | (refine ExL.gsplit rJ rJ rJ (fun h => ?_) (fun h => ?_) <;> try (exfalso; omega))) | (first | refine st_new_ rJ rE (fun g => ?_) | refine st_boxA rJ rJ (fun g => ?_) | refine st_box1 rJ rE rN (fun g => ?_) | (apply exlStore; first | refine st_store1_ _ rJ rK rE rN rJ rJ rE rE ?_ | refine st_storeW_ _ rJ rK rJ rC rJ rJ rJ rE ?_ | refine st_storeR _ rJ rK rJ rE rJ rJ rE ?_ | refine st_storeA_ _ rJ rK rJ rC rJ rJ rJ rE rE ?_ | refine st_storeB _ rJ rJ rO rO rK rJ rO ?_ | refine st_storeG _ rJ rK rE rN rJ rO (fun cs hcs => ?_)) | refine st_slice0 rJ rJ rJ rJ (fun g => ?_) | refine st_slice1T rJ rJ rJ rJ (fun g => ?_) | refine st_makeT rJ rJ rJ rJ rE rJ rO rO (fun v o => ?_) | (apply exlCopy; first | refine st_copyW _ rJ rE rK rE rD rJ rE rJ (fun zs hzs => ?_) | refine st_copyS _ rJ rJ rK rE rD rJ rE rJ rO rO (fun zs hzs => ?_)) | refine st_sliceB rJ rJ rJ rJ rJ rJ rJ rL rE rE rJ (fun g => ?_) | refine st_slice1I rJ rJ rJ rJ rJ rJ (fun g => ?_) | refine st_slice1B rJ rJ rJ rJ rJ rJ rO rO (fun g => ?_) | refine st_slice1S rJ rJ rJ rJ rJ rJ (fun g => ?_) | refine st_slice2B rJ rJ rJ rJ rJ rJ rJ rO rO rO rO (fun g => ?_) | (apply exlConv; first | refine st_bytes rJ rJ rJ rJ rJ rO (fun v o => ?_) | refine st_mark _ rJ rJ rK rJ rJ rJ ?_) | refine st_clear _ (0 : UInt8) rJ rK rJ rJ rJ rJ rJ rO ?_ | refine st_clearT _ rJ rK rO rJ rJ rO rE ?_ | (apply exlAppend; first | refine st_app0 rJ rJ rE rD rJ rE rJ rE rJ rJ rJ rO (fun v o => ?_) | refine st_app _ rJ rE rK rE rD rJ rE rJ rE rJ rJ rJ rO (fun v o => ?_) | refine st_shift _ rJ rJ rJ rK rO rJ rJ rJ rO rO rE ?_)) | (refine Ex.cond_d rJ (fun h => ?_) (fun h => ?_) <;> try (exfalso; omega))))
    (first | refine fin_ret rS ?_ | refine fin_norm rS ?_)
    exact ⟨_, rB, rfl, rfl⟩
set_option maxHeartbeats 1000000 in
theorem post_cut (g0 : Nat) (vs vt : Value) (most : Int) (ss : List Sh) (told : List Clk) (s : Nat) (M : List Assn) (hs : s < ss.length) (hs5 : ss.length ≤ 5) (hl : told.length = ss.length) (hok : (ss[s]'hs).sf.Ok) (hal : (ss[s]'hs).sf.all.length ≤ 100000000) :
    Fn Try.prog 30 #[.pointer (some ⟨g0, 0, none⟩), .int .i64 s] (Po g0 vs vt :: Ptrs vs ss :: Told vt told :: Shs most ss :: M)
    fun _ L' => ∃ x : Sh, x.g = (ss[s]'hs).g ∧ x.sf = (ss[s]'hs).sf.to (leastR told s) ∧ L' = Po g0 vs vt :: Ptrs vs (ss.set s x) :: Told vt told :: Shs most (ss.set s x) :: M := by
  have hml : (ss.map fun s => Ptr.mk s.g).length = ss.length := List.length_map ..
  refine Fn.of_ex Try.func30 rfl Try.ntmps30 rfl ?_
  (repeat' (first | refine ExL.val rJ rJ rJ rV ?_ | (first | refine Ex.seq ?_ | refine Ex.region ?_ | refine ExL.nil ?_ | refine thn_n ?_ | refine Ex.cond_t rJ ?_ | refine Ex.cond_f rJ ?_ | refine Ex.skip ?_ | refine Ex.block ?_ | refine Ex.exit ?_ | refine Ex.ret ?_ | refine thn_exit ?_ | refine thn_ret ?_ | refine inb_n ?_ | refine inb_hit rJ ?_ | refine inb_miss rJ ?_ | refine inb_ret ?_ | refine rnd_exit ?_ | refine rnd_ret ?_ | refine meet_ret ?_ | refine meet_exit ?_) | (apply exlGuard; first | refine ExL.gskip rJ rJ rJ rJ rJ rJ ?_ | refine ExL.gtake rJ rJ rJ rJ ?_ | refine ExL.gskipU rJ rJ rJ rJ ?_ | (refine ExL.gsplit rJ rJ rJ (fun h => ?_) (fun h => ?_) <;> try (exfalso; omega))) | (first | refine st_new_ rJ rE (fun g => ?_) | refine st_boxA rJ rJ (fun g => ?_) | refine st_box1 rJ rE rN (fun g => ?_) | (apply exlStore; first | refine st_store1_ _ rJ rK rE rN rJ rJ rE rE ?_ | refine st_storeW_ _ rJ rK rJ rC rJ rJ rJ rE ?_ | refine st_storeR _ rJ rK rJ rE rJ rJ rE ?_ | refine st_storeA_ _ rJ rK rJ rC rJ rJ rJ rE rE ?_ | refine st_storeB _ rJ rJ rO rO rK rJ rO ?_ | refine st_storeG _ rJ rK rE rN rJ rO (fun cs hcs => ?_)) | refine st_slice0 rJ rJ rJ rJ (fun g => ?_) | refine st_slice1T rJ rJ rJ rJ (fun g => ?_) | refine st_makeT rJ rJ rJ rJ rE rJ rO rO (fun v o => ?_) | (apply exlCopy; first | refine st_copyW _ rJ rE rK rE rD rJ rE rJ (fun zs hzs => ?_) | refine st_copyS _ rJ rJ rK rE rD rJ rE rJ rO rO (fun zs hzs => ?_)) | refine st_sliceB rJ rJ rJ rJ rJ rJ rJ rL rE rE rJ (fun g => ?_) | refine st_slice1I rJ rJ rJ rJ rJ rJ (fun g => ?_) | refine st_slice1B rJ rJ rJ rJ rJ rJ rO rO (fun g => ?_) | refine st_slice1S rJ rJ rJ rJ rJ rJ (fun g => ?_) | refine st_slice2B rJ rJ rJ rJ rJ rJ rJ rO rO rO rO (fun g => ?_) | (apply exlConv; first | refine st_bytes rJ rJ rJ rJ rJ rO (fun v o => ?_) | refine st_mark _ rJ rJ rK rJ rJ rJ ?_) | refine st_clear _ (0 : UInt8) rJ rK rJ rJ rJ rJ rJ rO ?_ | refine st_clearT _ rJ rK rO rJ rJ rO rE ?_ | (apply exlAppend; first | refine st_app0 rJ rJ rE rD rJ rE rJ rE rJ rJ rJ rO (fun v o => ?_) | refine st_app _ rJ rE rK rE rD rJ rE rJ rE rJ rJ rJ rO (fun v o => ?_) | refine st_shift _ rJ rJ rJ rK rO rJ rJ rJ rO rO rE ?_)) | (refine Ex.cond_d rJ (fun h => ?_) (fun h => ?_) <;> try (exfalso; omega))))
  refine ExL.val rJ rJ rJ (vl_loadSC (i := 0) rJ rJ rD (by omega) (by omega)) ?_
  rw [Int.toNat_natCast, leastK_zero s (by omega)]
  (repeat' (first | refine ExL.val rJ rJ rJ rV ?_ | (first | refine Ex.seq ?_ | refine Ex.region ?_ | refine ExL.nil ?_ | refine thn_n ?_ | refine Ex.cond_t rJ ?_ | refine Ex.cond_f rJ ?_ | refine Ex.skip ?_ | refine Ex.block ?_ | refine Ex.exit ?_ | refine Ex.ret ?_ | refine thn_exit ?_ | refine thn_ret ?_ | refine inb_n ?_ | refine inb_hit rJ ?_ | refine inb_miss rJ ?_ | refine inb_ret ?_ | refine rnd_exit ?_ | refine rnd_ret ?_ | refine meet_ret ?_ | refine meet_exit ?_) | (apply exlGuard; first | refine ExL.gskip rJ rJ rJ rJ rJ rJ ?_ | refine ExL.gtake rJ rJ rJ rJ ?_ | refine ExL.gskipU rJ rJ rJ rJ ?_ | (refine ExL.gsplit rJ rJ rJ (fun h => ?_) (fun h => ?_) <;> try (exfalso; omega))) | (first | refine st_new_ rJ rE (fun g => ?_) | refine st_boxA rJ rJ (fun g => ?_) | refine st_box1 rJ rE rN (fun g => ?_) | (apply exlStore; first | refine st_store1_ _ rJ rK rE rN rJ rJ rE rE ?_ | refine st_storeW_ _ rJ rK rJ rC rJ rJ rJ rE ?_ | refine st_storeR _ rJ rK rJ rE rJ rJ rE ?_ | refine st_storeA_ _ rJ rK rJ rC rJ rJ rJ rE rE ?_ | refine st_storeB _ rJ rJ rO rO rK rJ rO ?_ | refine st_storeG _ rJ rK rE rN rJ rO (fun cs hcs => ?_)) | refine st_slice0 rJ rJ rJ rJ (fun g => ?_) | refine st_slice1T rJ rJ rJ rJ (fun g => ?_) | refine st_makeT rJ rJ rJ rJ rE rJ rO rO (fun v o => ?_) | (apply exlCopy; first | refine st_copyW _ rJ rE rK rE rD rJ rE rJ (fun zs hzs => ?_) | refine st_copyS _ rJ rJ rK rE rD rJ rE rJ rO rO (fun zs hzs => ?_)) | refine st_sliceB rJ rJ rJ rJ rJ rJ rJ rL rE rE rJ (fun g => ?_) | refine st_slice1I rJ rJ rJ rJ rJ rJ (fun g => ?_) | refine st_slice1B rJ rJ rJ rJ rJ rJ rO rO (fun g => ?_) | refine st_slice1S rJ rJ rJ rJ rJ rJ (fun g => ?_) | refine st_slice2B rJ rJ rJ rJ rJ rJ rJ rO rO rO rO (fun g => ?_) | (apply exlConv; first | refine st_bytes rJ rJ rJ rJ rJ rO (fun v o => ?_) | refine st_mark _ rJ rJ rK rJ rJ rJ ?_) | refine st_clear _ (0 : UInt8) rJ rK rJ rJ rJ rJ rJ rO ?_ | refine st_clearT _ rJ rK rO rJ rJ rO rE ?_ | (apply exlAppend; first | refine st_app0 rJ rJ rE rD rJ rE rJ rE rJ rJ rJ rO (fun v o => ?_) | refine st_app _ rJ rE rK rE rD rJ rE rJ rE rJ rJ rJ rO (fun v o => ?_) | refine st_shift _ rJ rJ rJ rK rO rJ rJ rJ rO rO rE ?_)) | (refine Ex.cond_d rJ (fun h => ?_) (fun h => ?_) <;> try (exfalso; omega))))
  refine Ex.loop [4, 20] (fun m vs2 L' => ∃ k : Nat, k ≤ told.length ∧ m = told.length - k ∧ vs2 = [.int .i64 (leastK told s k), .int .i64 k] ∧ L' = Po g0 vs vt :: Ptrs vs ss :: Told vt told :: Shs most ss :: M) told.length ⟨0, by omega, rfl, rfl, rfl⟩ ?_
  rintro m vs2 g1 L' ⟨k, hk, rfl, rfl, rfl⟩
  by_cases hlt : k < told.length
  · (repeat' (first | refine ExL.val rJ rJ rJ rV ?_ | (first | refine Ex.seq ?_ | refine Ex.region ?_ | refine ExL.nil ?_ | refine thn_n ?_ | refine Ex.cond_t rJ ?_ | refine Ex.cond_f rJ ?_ | refine Ex.skip ?_ | refine Ex.block ?_ | refine Ex.exit ?_ | refine Ex.ret ?_ | refine thn_exit ?_ | refine thn_ret ?_ | refine inb_n ?_ | refine inb_hit rJ ?_ | refine inb_miss rJ ?_ | refine inb_ret ?_ | refine rnd_exit ?_ | refine rnd_ret ?_ | refine meet_ret ?_ | refine meet_exit ?_) | (apply exlGuard; first | refine ExL.gskip rJ rJ rJ rJ rJ rJ ?_ | refine ExL.gtake rJ rJ rJ rJ ?_ | refine ExL.gskipU rJ rJ rJ rJ ?_ | (refine ExL.gsplit rJ rJ rJ (fun h => ?_) (fun h => ?_) <;> try (exfalso; omega))) | (first | refine st_new_ rJ rE (fun g => ?_) | refine st_boxA rJ rJ (fun g => ?_) | refine st_box1 rJ rE rN (fun g => ?_) | (apply exlStore; first | refine st_store1_ _ rJ rK rE rN rJ rJ rE rE ?_ | refine st_storeW_ _ rJ rK rJ rC rJ rJ rJ rE ?_ | refine st_storeR _ rJ rK rJ rE rJ rJ rE ?_ | refine st_storeA_ _ rJ rK rJ rC rJ rJ rJ rE rE ?_ | refine st_storeB _ rJ rJ rO rO rK rJ rO ?_ | refine st_storeG _ rJ rK rE rN rJ rO (fun cs hcs => ?_)) | refine st_slice0 rJ rJ rJ rJ (fun g => ?_) | refine st_slice1T rJ rJ rJ rJ (fun g => ?_) | refine st_makeT rJ rJ rJ rJ rE rJ rO rO (fun v o => ?_) | (apply exlCopy; first | refine st_copyW _ rJ rE rK rE rD rJ rE rJ (fun zs hzs => ?_) | refine st_copyS _ rJ rJ rK rE rD rJ rE rJ rO rO (fun zs hzs => ?_)) | refine st_sliceB rJ rJ rJ rJ rJ rJ rJ rL rE rE rJ (fun g => ?_) | refine st_slice1I rJ rJ rJ rJ rJ rJ (fun g => ?_) | refine st_slice1B rJ rJ rJ rJ rJ rJ rO rO (fun g => ?_) | refine st_slice1S rJ rJ rJ rJ rJ rJ (fun g => ?_) | refine st_slice2B rJ rJ rJ rJ rJ rJ rJ rO rO rO rO (fun g => ?_) | (apply exlConv; first | refine st_bytes rJ rJ rJ rJ rJ rO (fun v o => ?_) | refine st_mark _ rJ rJ rK rJ rJ rJ ?_) | refine st_clear _ (0 : UInt8) rJ rK rJ rJ rJ rJ rJ rO ?_ | refine st_clearT _ rJ rK rO rJ rJ rO rE ?_ | (apply exlAppend; first | refine st_app0 rJ rJ rE rD rJ rE rJ rE rJ rJ rJ rO (fun v o => ?_) | refine st_app _ rJ rE rK rE rD rJ rE rJ rE rJ rJ rJ rO (fun v o => ?_) | refine st_shift _ rJ rJ rJ rK rO rJ rJ rJ rO rO rE ?_)) | (refine Ex.cond_d rJ (fun h => ?_) (fun h => ?_) <;> try (exfalso; omega))))
    rw [Int.toNat_natCast, getD5, ← leastK_succ hlt]
    (repeat' (first | refine ExL.val rJ rJ rJ rV ?_ | (first | refine Ex.seq ?_ | refine Ex.region ?_ | refine ExL.nil ?_ | refine thn_n ?_ | refine Ex.cond_t rJ ?_ | refine Ex.cond_f rJ ?_ | refine Ex.skip ?_ | refine Ex.block ?_ | refine Ex.exit ?_ | refine Ex.ret ?_ | refine thn_exit ?_ | refine thn_ret ?_ | refine inb_n ?_ | refine inb_hit rJ ?_ | refine inb_miss rJ ?_ | refine inb_ret ?_ | refine rnd_exit ?_ | refine rnd_ret ?_ | refine meet_ret ?_ | refine meet_exit ?_) | (apply exlGuard; first | refine ExL.gskip rJ rJ rJ rJ rJ rJ ?_ | refine ExL.gtake rJ rJ rJ rJ ?_ | refine ExL.gskipU rJ rJ rJ rJ ?_ | (refine ExL.gsplit rJ rJ rJ (fun h => ?_) (fun h => ?_) <;> try (exfalso; omega))) | (first | refine st_new_ rJ rE (fun g => ?_) | refine st_boxA rJ rJ (fun g => ?_) | refine st_box1 rJ rE rN (fun g => ?_) | (apply exlStore; first | refine st_store1_ _ rJ rK rE rN rJ rJ rE rE ?_ | refine st_storeW_ _ rJ rK rJ rC rJ rJ rJ rE ?_ | refine st_storeR _ rJ rK rJ rE rJ rJ rE ?_ | refine st_storeA_ _ rJ rK rJ rC rJ rJ rJ rE rE ?_ | refine st_storeB _ rJ rJ rO rO rK rJ rO ?_ | refine st_storeG _ rJ rK rE rN rJ rO (fun cs hcs => ?_)) | refine st_slice0 rJ rJ rJ rJ (fun g => ?_) | refine st_slice1T rJ rJ rJ rJ (fun g => ?_) | refine st_makeT rJ rJ rJ rJ rE rJ rO rO (fun v o => ?_) | (apply exlCopy; first | refine st_copyW _ rJ rE rK rE rD rJ rE rJ (fun zs hzs => ?_) | refine st_copyS _ rJ rJ rK rE rD rJ rE rJ rO rO (fun zs hzs => ?_)) | refine st_sliceB rJ rJ rJ rJ rJ rJ rJ rL rE rE rJ (fun g => ?_) | refine st_slice1I rJ rJ rJ rJ rJ rJ (fun g => ?_) | refine st_slice1B rJ rJ rJ rJ rJ rJ rO rO (fun g => ?_) | refine st_slice1S rJ rJ rJ rJ rJ rJ (fun g => ?_) | refine st_slice2B rJ rJ rJ rJ rJ rJ rJ rO rO rO rO (fun g => ?_) | (apply exlConv; first | refine st_bytes rJ rJ rJ rJ rJ rO (fun v o => ?_) | refine st_mark _ rJ rJ rK rJ rJ rJ ?_) | refine st_clear _ (0 : UInt8) rJ rK rJ rJ rJ rJ rJ rO ?_ | refine st_clearT _ rJ rK rO rJ rJ rO rE ?_ | (apply exlAppend; first | refine st_app0 rJ rJ rE rD rJ rE rJ rE rJ rJ rJ rO (fun v o => ?_) | refine st_app _ rJ rE rK rE rD rJ rE rJ rE rJ rJ rJ rO (fun v o => ?_) | refine st_shift _ rJ rJ rJ rK rO rJ rJ rJ rO rO rE ?_)) | (refine Ex.cond_d rJ (fun h => ?_) (fun h => ?_) <;> try (exfalso; omega))))
    exact rnd_n ⟨told.length - (k + 1), _, by omega, rB, k + 1, by omega, rfl, lcons rfl (lcons (vint (by omega)) rfl), rfl⟩
  · obtain rfl : k = told.length := by omega
    rw [leastK_all]
    (repeat' (first | refine ExL.val rJ rJ rJ rV ?_ | (first | refine Ex.seq ?_ | refine Ex.region ?_ | refine ExL.nil ?_ | refine thn_n ?_ | refine Ex.cond_t rJ ?_ | refine Ex.cond_f rJ ?_ | refine Ex.skip ?_ | refine Ex.block ?_ | refine Ex.exit ?_ | refine Ex.ret ?_ | refine thn_exit ?_ | refine thn_ret ?_ | refine inb_n ?_ | refine inb_hit rJ ?_ | refine inb_miss rJ ?_ | refine inb_ret ?_ | refine rnd_exit ?_ | refine rnd_ret ?_ | refine meet_ret ?_ | refine meet_exit ?_) | (apply exlGuard; first | refine ExL.gskip rJ rJ rJ rJ rJ rJ ?_ | refine ExL.gtake rJ rJ rJ rJ ?_ | refine ExL.gskipU rJ rJ rJ rJ ?_ | (refine ExL.gsplit rJ rJ rJ (fun h => ?_) (fun h => ?_) <;> try (exfalso; omega))) | (first | refine st_new_ rJ rE (fun g => ?_) | refine st_boxA rJ rJ (fun g => ?_) | refine st_box1 rJ rE rN (fun g => ?_) | (apply exlStore; first | refine st_store1_ _ rJ rK rE rN rJ rJ rE rE ?_ | refine st_storeW_ _ rJ rK rJ rC rJ rJ rJ rE ?_ | refine st_storeR _ rJ rK rJ rE rJ rJ rE ?_ | refine st_storeA_ _ rJ rK rJ rC rJ rJ rJ rE rE ?_ | refine st_storeB _ rJ rJ rO rO rK rJ rO ?_ | refine st_storeG _ rJ rK rE rN rJ rO (fun cs hcs => ?_)) | refine st_slice0 rJ rJ rJ rJ (fun g => ?_) | refine st_slice1T rJ rJ rJ rJ (fun g => ?_) | refine st_makeT rJ rJ rJ rJ rE rJ rO rO (fun v o => ?_) | (apply exlCopy; first | refine st_copyW _ rJ rE rK rE rD rJ rE rJ (fun zs hzs => ?_) | refine st_copyS _ rJ rJ rK rE rD rJ rE rJ rO rO (fun zs hzs => ?_)) | refine st_sliceB rJ rJ rJ rJ rJ rJ rJ rL rE rE rJ (fun g => ?_) | refine st_slice1I rJ rJ rJ rJ rJ rJ (fun g => ?_) | refine st_slice1B rJ rJ rJ rJ rJ rJ rO rO (fun g => ?_) | refine st_slice1S rJ rJ rJ rJ rJ rJ (fun g => ?_) | refine st_slice2B rJ rJ rJ rJ rJ rJ rJ rO rO rO rO (fun g => ?_) | (apply exlConv; first | refine st_bytes rJ rJ rJ rJ rJ rO (fun v o => ?_) | refine st_mark _ rJ rJ rK rJ rJ rJ ?_) | refine st_clear _ (0 : UInt8) rJ rK rJ rJ rJ rJ rJ rO ?_ | refine st_clearT _ rJ rK rO rJ rJ rO rE ?_ | (apply exlAppend; first | refine st_app0 rJ rJ rE rD rJ rE rJ rE rJ rJ rJ rO (fun v o => ?_) | refine st_app _ rJ rE rK rE rD rJ rE rJ rE rJ rJ rJ rO (fun v o => ?_) | refine st_shift _ rJ rJ rJ rK rO rJ rJ rJ rO rO rE ?_)) | (refine Ex.cond_d rJ (fun h => ?_) (fun h => ?_) <;> try (exfalso; omega))))
    rw [List.getElem_map]
    refine ExL.sub (L' := ShB most (ss[s]'hs) :: ShC (ss[s]'hs) :: ShsBut most ss s :: Po g0 vs vt :: Ptrs vs ss :: Told vt told :: M) ?_ (post_opn hs M)
    unfold Sf.Ok at hok
    refine st_callIs [] rJ Try.call37 rE rJ (shelf_Cut (ss[s]'hs).g most (ss[s]'hs).sf.cut (leastR told s) (ss[s]'hs).v ((ss[s]'hs).sf.all.drop (ss[s]'hs).sf.cut) _ (by omega) (by simp; omega)) ?_
    rintro _ _ ⟨v1, o1, rfl⟩
    (repeat' (first | refine ExL.val rJ rJ rJ rV ?_ | (first | refine Ex.seq ?_ | refine Ex.region ?_ | refine ExL.nil ?_ | refine thn_n ?_ | refine Ex.cond_t rJ ?_ | refine Ex.cond_f rJ ?_ | refine Ex.skip ?_ | refine Ex.block ?_ | refine Ex.exit ?_ | refine Ex.ret ?_ | refine thn_exit ?_ | refine thn_ret ?_ | refine inb_n ?_ | refine inb_hit rJ ?_ | refine inb_miss rJ ?_ | refine inb_ret ?_ | refine rnd_exit ?_ | refine rnd_ret ?_ | refine meet_ret ?_ | refine meet_exit ?_) | (apply exlGuard; first | refine ExL.gskip rJ rJ rJ rJ rJ rJ ?_ | refine ExL.gtake rJ rJ rJ rJ ?_ | refine ExL.gskipU rJ rJ rJ rJ ?_ | (refine ExL.gsplit rJ rJ rJ (fun h => ?_) (fun h => ?_) <;> try (exfalso; omega))) | (first | refine st_new_ rJ rE (fun g => ?_) | refine st_boxA rJ rJ (fun g => ?_) | refine st_box1 rJ rE rN (fun g => ?_) | (apply exlStore; first | refine st_store1_ _ rJ rK rE rN rJ rJ rE rE ?_ | refine st_storeW_ _ rJ rK rJ rC rJ rJ rJ rE ?_ | refine st_storeR _ rJ rK rJ rE rJ rJ rE ?_ | refine st_storeA_ _ rJ rK rJ rC rJ rJ rJ rE rE ?_ | refine st_storeB _ rJ rJ rO rO rK rJ rO ?_ | refine st_storeG _ rJ rK rE rN rJ rO (fun cs hcs => ?_)) | refine st_slice0 rJ rJ rJ rJ (fun g => ?_) | refine st_slice1T rJ rJ rJ rJ (fun g => ?_) | refine st_makeT rJ rJ rJ rJ rE rJ rO rO (fun v o => ?_) | (apply exlCopy; first | refine st_copyW _ rJ rE rK rE rD rJ rE rJ (fun zs hzs => ?_) | refine st_copyS _ rJ rJ rK rE rD rJ rE rJ rO rO (fun zs hzs => ?_)) | refine st_sliceB rJ rJ rJ rJ rJ rJ rJ rL rE rE rJ (fun g => ?_) | refine st_slice1I rJ rJ rJ rJ rJ rJ (fun g => ?_) | refine st_slice1B rJ rJ rJ rJ rJ rJ rO rO (fun g => ?_) | refine st_slice1S rJ rJ rJ rJ rJ rJ (fun g => ?_) | refine st_slice2B rJ rJ rJ rJ rJ rJ rJ rO rO rO rO (fun g => ?_) | (apply exlConv; first | refine st_bytes rJ rJ rJ rJ rJ rO (fun v o => ?_) | refine st_mark _ rJ rJ rK rJ rJ rJ ?_) | refine st_clear _ (0 : UInt8) rJ rK rJ rJ rJ rJ rJ rO ?_ | refine st_clearT _ rJ rK rO rJ rJ rO rE ?_ | (apply exlAppend; first | refine st_app0 rJ rJ rE rD rJ rE rJ rE rJ rJ rJ rO (fun v o => ?_) | refine st_app _ rJ rE rK rE rD rJ rE rJ rE rJ rJ rJ rO (fun v o => ?_) | refine st_shift _ rJ rJ rJ rK rO rJ rJ rJ rO rO rE ?_)) | (refine Ex.cond_d rJ (fun h => ?_) (fun h => ?_) <;> try (exfalso; omega))))
    (first | refine fin_ret rS ?_ | refine fin_norm rS ?_)
    obtain ⟨B, hB⟩ : ∃ B : Nat, (B : Int) = max ((ss[s]'hs).sf.cut : Int) (min (leastR told s) (ss[s]'hs).sf.all.length) := ⟨(max ((ss[s]'hs).sf.cut : Int) (min (leastR told s) (ss[s]'hs).sf.all.length)).toNat, by omega⟩
    have hx : (ss[s]'hs).sf.to (leastR told s) = ⟨(ss[s]'hs).sf.all, B⟩ := by unfold Sf.to; rw [← hB, Int.toNat_natCast]
    refine ⟨_, ?_, ⟨(ss[s]'hs).g, v1, o1, ⟨(ss[s]'hs).sf.all, B⟩⟩, rfl, hx.symm, rfl⟩
    refine Sub.trans (post_put (x := ⟨(ss[s]'hs).g, v1, o1, ⟨(ss[s]'hs).sf.all, B⟩⟩) hs rfl M) ?_
    have e1 : max ((ss[s]'hs).sf.cut : Int) (min (leastR told s) ((ss[s]'hs).sf.cut + ((ss[s]'hs).sf.all.drop (ss[s]'hs).sf.cut).length)) = B := by
      rw [hB, List.length_drop]; congr 2; omega
    rw [e1, List.drop_drop, show (ss[s]'hs).sf.cut + ((B : Int) - (ss[s]'hs).sf.cut).toNat = B by omega]
    exact rB
end Go.Proofs.Ytkcpgdkchglhhaa
