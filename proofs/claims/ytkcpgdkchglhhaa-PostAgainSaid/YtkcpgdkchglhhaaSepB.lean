/- A variable that is an array of things, at places that are not literal. No condition. -/
import Derived.Test.YtkcpgdkchglhhaaSepT
namespace Go.Proofs.Ytkcpgdkchglhhaa
open Go.RowKit
set_option linter.unusedSimpArgs false
set_option linter.unusedVariables false
theorem cellsOf_get1 {α : Type} [Rep α] {xs : List α} {j : Nat} (hj : j < xs.length) : ((cellsOf xs).drop (j * Rep.sz α)).take (Rep.sz α) = Rep.cells (xs[j]'hj) := by
  rw [cellsOf_drop, List.drop_eq_getElem_cons hj]
  show ((Rep.cells (xs[j]'hj)) ++ cellsOf (xs.drop (j + 1))).take (Rep.sz α) = _
  rw [← Rep.len (xs[j]'hj), List.take_left]
theorem cellsOf_setA {α : Type} [Rep α] {xs : List α} {j : Nat} (hj : j < xs.length) (a : α) : (cellsOf xs).take (j * Rep.sz α) ++ Rep.cells a ++ (cellsOf xs).drop (j * Rep.sz α + Rep.sz α) = cellsOf (xs.set j a) := by
  have e : xs.set j a = xs.take j ++ a :: xs.drop (j + 1) := List.set_eq_take_append_cons_drop .. |>.trans (by rw [if_pos hj])
  rw [e, cellsOf_append, cellsOf_take, ← Nat.succ_mul, cellsOf_drop]
  show cellsOf (xs.take j) ++ Rep.cells a ++ cellsOf (xs.drop (j + 1)) = cellsOf (xs.take j) ++ (Rep.cells a ++ cellsOf (xs.drop (j + 1)))
  rw [List.append_assoc]
section
variable {P : Program} {n : Nat} {ops : Array Oper} {Q : Post} {f : Nat → Value} {L : List Assn} {rest : List Oper} {d : Nat} {ty : TypeId} {pos : String} {af : Array Edge} {gd : Option (Nat × Bool)}
variable {α : Type} [Rep α] {xs : List α}
/-- A whole thing. -/
theorem vl_loadBA (i : Nat) {t bt : TypeId} {x : Operand} {g j sz : Nat} (hx : evalF f x = .pointer (some ⟨g, 0 + j * sz, none⟩)) (hi : L[i]? = some (Blk g bt (cellsOf xs))) (hA : aggB P t = some true) (hm : P.cellsOf t = sz) (hsz : Rep.sz α = sz) (hj : j < xs.length) :
    Val P ⟨some d, .load t x, ty, pos, af, gd⟩ f L (.agg (Rep.cells (xs[j]'hj)).toArray) := fun F w s => by
  subst hsz
  have := run_loadVarA (P := P) w (t := t) (a := ⟨g, 0 + j * Rep.sz α, none⟩) (cs := Rep.cells (xs[j]'hj)) hA (by rw [hm, Rep.len]) (by rw [Rep.len]; exact Rep.pos) (fun k u hk => by
    rw [addr_add]
    rw [← cellsOf_get1 hj] at hk
    have := take_drop_get hk
    rw [Nat.zero_add]
    exact blk_cell hi this s)
  rw [Nat.zero_add] at hx this
  simp [execOp, hx, Instr.loadAt, Instr.sureAddr, this]
/-- A cell of a thing. -/
theorem vl_loadB1 (i : Nat) {t bt : TypeId} {x : Operand} {g j o sz : Nat} {v : Value} (hx : evalF f x = .pointer (some ⟨g, 0 + j * sz + o * 1, none⟩)) (hi : L[i]? = some (Blk g bt (cellsOf xs))) (hA : aggB P t = some false) (hsz : Rep.sz α = sz) (hj : j < xs.length) (ho : o < sz) (hv : (Rep.cells (xs[j]'hj))[o]? = some v) :
    Val P ⟨some d, .load t x, ty, pos, af, gd⟩ f L v := fun F w s => by
  subst hsz
  have h := cellsOf_get hj ho
  rw [hv] at h
  rw [Nat.zero_add, Nat.mul_one] at hx
  have := run_loadVar1 (P := P) w hA (blk_cell hi h s)
  simp [execOp, hx, Instr.loadAt, Instr.sureAddr, this]
theorem st_storeBA (i : Nat) {t bt : TypeId} {x y : Operand} {g j sz : Nat} {a : α} {L' : List Assn} (hx : evalF f x = .pointer (some ⟨g, 0 + j * sz, none⟩)) (hi : L[i]? = some (Blk g bt (cellsOf xs))) (hy : evalF f y = .agg (Rep.cells a).toArray) (hm : P.cellsOf t = sz) (hsz : Rep.sz α = sz) (hj : j < xs.length)
    (hL : L.set i (Blk g bt (cellsOf (xs.set j a))) = L') (h : ExL P n ops rest Q f L') : ExL P n ops (⟨none, .store t x y, ty, pos, af, none⟩ :: rest) Q f L := by
  subst hsz
  refine st_storeA i hx hy (Rep.one a) hi (by rw [hm, Rep.len]) (by rw [Rep.len]; exact Nat.ble_eq_true_of_le (show 0 + 1 ≤ _ from Rep.pos)) (by
    rw [Rep.len, cellsOf_len, Nat.zero_add, ← Nat.succ_mul]
    exact Nat.ble_eq_true_of_le (Nat.mul_le_mul_right _ (by omega))) ?_ h
  rw [Rep.len, Nat.zero_add, cellsOf_setA hj a, hL]
theorem st_storeB1 (i : Nat) {t bt : TypeId} {x y : Operand} {g j o sz : Nat} {v : Value} {a : α} {L' : List Assn} (hx : evalF f x = .pointer (some ⟨g, 0 + j * sz + o * 1, none⟩)) (hi : L[i]? = some (Blk g bt (cellsOf xs))) (hy : evalF f y = v) (h1 : v.oneCell' = true) (hm : P.cellsOf t = 1) (hsz : Rep.sz α = sz) (hj : j < xs.length) (ho : o < sz)
    (ha : Rep.cells a = (Rep.cells (xs[j]'hj)).set o v) (hL : L.set i (Blk g bt (cellsOf (xs.set j a))) = L') (h : ExL P n ops rest Q f L') : ExL P n ops (⟨none, .store t x y, ty, pos, af, none⟩ :: rest) Q f L := by
  subst hsz
  have e := cellsOf_set (u := v) hj ho ha
  refine st_store1 i hx hy h1 hi hm (Nat.ble_eq_true_of_le (by
    rw [cellsOf_len, Nat.zero_add, Nat.mul_one]
    have : (j + 1) * Rep.sz α ≤ xs.length * Rep.sz α := Nat.mul_le_mul_right _ (by omega)
    rw [Nat.succ_mul] at this
    omega)) ?_ h
  rw [Nat.zero_add, Nat.mul_one, e, hL]
end
end Go.Proofs.Ytkcpgdkchglhhaa
