/- Slices of slices, texts out of bytes, bytes out of texts, elements written. No condition. -/
import Derived.Test.YtkcpgdkchglhhaaSepX
namespace Go.Proofs.Ytkcpgdkchglhhaa
open Go.RowKit
set_option linter.unusedSimpArgs false
set_option linter.unusedVariables false
theorem cellsOf_bytes (l : List UInt8) : cellsOf l = byteVals l := by
  simp only [cellsOf, byteVals]
  induction l with
  | nil => rfl
  | cons a l ih => simp only [List.flatMap_cons, List.map_cons, ih]; rfl
section
variable {L : List Assn} {α : Type} [Rep α] {v : Value} {xs : List α}
theorem RdT.cap (hr : RdT L v xs) {w : World} {F : Frag} (s : Sats w L F) : ∃ a c, v = .slice a xs.length c ∧ xs.length ≤ c ∧ c ≤ maxLen := sl_cap (hr w F s)
theorem RdT.to (hr : RdT L v xs) {h : Nat} (hk : h ≤ xs.length) {sz : Nat} (hsz : Rep.sz α = sz) : RdT L (Go.Proofs.Ytkcpgdkchglhhaa.subs v 0 h sz) (xs.take h) := by
  subst hsz
  have := RdT.subs hr (Nat.zero_le h) hk
  simpa using this
theorem RdT.off (hr : RdT L v xs) {l : Nat} (hk : l ≤ xs.length) {sz k : Nat} (hsz : Rep.sz α = sz) (hkk : k = xs.length) : RdT L (Go.Proofs.Ytkcpgdkchglhhaa.subs v l k sz) (xs.drop l) := by
  subst hsz; subst hkk
  have := RdT.subs hr hk (Nat.le_refl xs.length)
  rwa [List.take_of_length_le (by simp)] at this
theorem RdT.mid (hr : RdT L v xs) {l h : Nat} (hl : l ≤ h) (hk : h ≤ xs.length) {sz : Nat} (hsz : Rep.sz α = sz) : RdT L (Go.Proofs.Ytkcpgdkchglhhaa.subs v l h sz) ((xs.drop l).take (h - l)) := by
  subst hsz
  exact RdT.subs hr hl hk
theorem RdT.to3 (hr : RdT L v xs) {h m : Nat} (hk : h ≤ m) (hm : m ≤ xs.length) {sz : Nat} (hsz : Rep.sz α = sz) : RdT L (Go.Proofs.Ytkcpgdkchglhhaa.subs3 v 0 h m sz) (xs.take h) := by
  subst hsz
  have := RdT.subs3 hr (Nat.zero_le h) hk hm
  simpa using this
end
section
variable {P : Program} {w : World} {t e : TypeId} {sz : Nat} {a : Option Addr} {k c : Nat}
theorem run_sl {lo hi mx : Option Value} (hu : P.underlying t = some (.slice e)) (hs : P.cellsOf e = sz) (hp : 0 < sz) {l h m : Nat}
    (hb : (Instr.sliceBounds true k c lo hi mx).run P w = .ok (l, h, m) w) : (Instr.sliceAt t (.slice a k c) lo hi mx).run P w = .ok (.slice (if m = l then a else a.map (·.add (l * sz))) (h - l) (m - l)) w := by
  simp only [Instr.sliceAt, Instr.slice, Sem.run_bind, run_underlying hu, Result.andThen_ok, hb, run_sizeOf' w hs hp, Sem.run_pure]
theorem run_bd {k : IntKind} {i : Int} {y : Nat} {code : BoundsCode} (h0 : 0 ≤ i) (h1 : i ≤ y) : (Instr.sliceBound (.int k i) y code).run P w = .ok i.toNat w := by
  simp [Instr.sliceBound, asIntOf, h0, h1]
end
section
variable {P : Program} {n : Nat} {ops : Array Oper} {Q : Post} {f : Nat → Value} {L : List Assn} {rest : List Oper} {d : Nat} {ty : TypeId} {pos : String} {af : Array Edge} {gd : Option (Nat × Bool)}
variable {α : Type} [Rep α] {v : Value} {xs ys : List α}
theorem vl_slH {t e : TypeId} {x y : Operand} {k : IntKind} {h : Int} {sz : Nat} (hx : evalF f x = v) (hy : evalF f y = .int k h) (hu : P.underlying t = some (.slice e)) (hr : RdT L v xs) (hs : P.cellsOf e = sz) (hp : Nat.blt 0 sz = true) (h0 : 0 ≤ h) (h1 : h ≤ (xs.length : Int)) :
    Val P ⟨some d, .slice t x none (some y) none, ty, pos, af, gd⟩ f L (subs v 0 h.toNat sz) := fun F w s => by
  obtain ⟨a, c, rfl, hc, _⟩ := hr.cap s
  have := run_sl (P := P) (w := w) (a := a) (k := xs.length) (c := c) (lo := none) (hi := some (.int k h)) (mx := none) hu hs (Nat.le_of_ble_eq_true hp) (l := 0) (h := h.toNat) (m := c) (by
    simp only [Instr.sliceBounds, Sem.run_bind, Sem.run_pure, Result.andThen_ok, run_bd h0 (show h ≤ (c : Int) by omega)])
  simp [execOp, hx, hy, this, subs]
theorem vl_slL {t e : TypeId} {x y : Operand} {k : IntKind} {l : Int} {sz : Nat} (hx : evalF f x = v) (hy : evalF f y = .int k l) (hu : P.underlying t = some (.slice e)) (hr : RdT L v xs) (hs : P.cellsOf e = sz) (hp : Nat.blt 0 sz = true) (h0 : 0 ≤ l) (h1 : l ≤ (xs.length : Int)) :
    Val P ⟨some d, .slice t x (some y) none none, ty, pos, af, gd⟩ f L (subs v l.toNat xs.length sz) := fun F w s => by
  obtain ⟨a, c, rfl, hc, _⟩ := hr.cap s
  have := run_sl (P := P) (w := w) (a := a) (k := xs.length) (c := c) (lo := some (.int k l)) (hi := none) (mx := none) hu hs (Nat.le_of_ble_eq_true hp) (l := l.toNat) (h := xs.length) (m := c) (by
    simp only [Instr.sliceBounds, Sem.run_bind, Sem.run_pure, Result.andThen_ok, run_bd h0 h1])
  simp [execOp, hx, hy, this, subs]
theorem vl_slLH {t e : TypeId} {x y z : Operand} {k k' : IntKind} {l h : Int} {sz : Nat} (hx : evalF f x = v) (hy : evalF f y = .int k l) (hz : evalF f z = .int k' h) (hu : P.underlying t = some (.slice e)) (hr : RdT L v xs) (hs : P.cellsOf e = sz) (hp : Nat.blt 0 sz = true) (h0 : 0 ≤ l) (hlh : l ≤ h) (h1 : h ≤ (xs.length : Int)) :
    Val P ⟨some d, .slice t x (some y) (some z) none, ty, pos, af, gd⟩ f L (subs v l.toNat h.toNat sz) := fun F w s => by
  obtain ⟨a, c, rfl, hc, _⟩ := hr.cap s
  have := run_sl (P := P) (w := w) (a := a) (k := xs.length) (c := c) (lo := some (.int k l)) (hi := some (.int k' h)) (mx := none) hu hs (Nat.le_of_ble_eq_true hp) (l := l.toNat) (h := h.toNat) (m := c) (by
    simp only [Instr.sliceBounds, Sem.run_bind, Sem.run_pure, Result.andThen_ok, run_bd (show 0 ≤ h by omega) (show h ≤ (c : Int) by omega), run_bd h0 (show l ≤ (h.toNat : Int) by omega)])
  simp [execOp, hx, hy, hz, this, subs]
theorem vl_slHM {t e : TypeId} {x y z : Operand} {k k' : IntKind} {h m : Int} {sz : Nat} (hx : evalF f x = v) (hy : evalF f y = .int k h) (hz : evalF f z = .int k' m) (hu : P.underlying t = some (.slice e)) (hr : RdT L v xs) (hs : P.cellsOf e = sz) (hp : Nat.blt 0 sz = true) (h0 : 0 ≤ h) (hlh : h ≤ m) (h1 : m ≤ (xs.length : Int)) :
    Val P ⟨some d, .slice t x none (some y) (some z), ty, pos, af, gd⟩ f L (subs3 v 0 h.toNat m.toNat sz) := fun F w s => by
  obtain ⟨a, c, rfl, hc, _⟩ := hr.cap s
  have := run_sl (P := P) (w := w) (a := a) (k := xs.length) (c := c) (lo := none) (hi := some (.int k h)) (mx := some (.int k' m)) hu hs (Nat.le_of_ble_eq_true hp) (l := 0) (h := h.toNat) (m := m.toNat) (by
    simp only [Instr.sliceBounds, Sem.run_bind, Sem.run_pure, Result.andThen_ok, run_bd (show 0 ≤ m by omega) (show m ≤ (c : Int) by omega), run_bd h0 (show h ≤ (m.toNat : Int) by omega)])
  simp [execOp, hx, hy, hz, this, subs3]
/-- A part of a text. -/
theorem vl_txH {t : TypeId} {x y : Operand} {k : IntKind} {h : Int} {a : List UInt8} (hx : evalF f x = .string (S a)) (hy : evalF f y = .int k h) (hu : P.underlying t = some .string) (h0 : 0 ≤ h) (h1 : h ≤ (a.length : Int)) :
    Val P ⟨some d, .slice t x none (some y) none, ty, pos, af, gd⟩ f L (.string (S (a.take h.toNat))) := fun F w s => by
  have e : (S a).extract 0 h.toNat = S (a.take h.toNat) := by rw [S_extract]; simp
  have hb : (Instr.sliceBounds false (S a).size (S a).size none (some (.int k h)) none).run P w = .ok (0, h.toNat, (S a).size) w := by
    simp only [Instr.sliceBounds, Sem.run_bind, Sem.run_pure, Result.andThen_ok, run_bd h0 (show h ≤ ((S a).size : Int) by rw [S_size]; exact h1)]
  rw [← e]
  generalize S a = sa at *
  simp [execOp, hx, hy, Instr.sliceAt, Instr.slice, run_underlying hu, hb]
theorem vl_txL {t : TypeId} {x y : Operand} {k : IntKind} {l : Int} {a : List UInt8} (hx : evalF f x = .string (S a)) (hy : evalF f y = .int k l) (hu : P.underlying t = some .string) (h0 : 0 ≤ l) (h1 : l ≤ (a.length : Int)) :
    Val P ⟨some d, .slice t x (some y) none none, ty, pos, af, gd⟩ f L (.string (S (a.drop l.toNat))) := fun F w s => by
  have e : (S a).extract l.toNat (S a).size = S (a.drop l.toNat) := by rw [S_extract, S_size, List.take_of_length_le (by simp)]
  have hb : (Instr.sliceBounds false (S a).size (S a).size (some (.int k l)) none none).run P w = .ok (l.toNat, (S a).size, (S a).size) w := by
    simp only [Instr.sliceBounds, Sem.run_bind, Sem.run_pure, Result.andThen_ok, run_bd h0 (show l ≤ ((S a).size : Int) by rw [S_size]; exact h1)]
  rw [← e]
  generalize S a = sa at *
  simp [execOp, hx, hy, Instr.sliceAt, Instr.slice, run_underlying hu, hb]
/-- string(b). -/
theorem vl_str {src dst e : TypeId} {x : Operand} {l : List UInt8} (hx : evalF f x = v) (hs : P.underlying src = some (.slice e)) (he : P.underlying e = some (.int .u8)) (hd : P.underlying dst = some .string) (hr : RdT L v l) :
    Val P ⟨some d, .convert src dst x, ty, pos, af, gd⟩ f L (.string (S l)) := fun F w s => by
  have h := hr w F s
  rw [cellsOf_bytes] at h
  have := Sl.str (P := P) h hs he hd
  simp [execOp, hx, this]
theorem vl_strstr {src dst : TypeId} {x : Operand} {s : ByteArray} {ds : TypeDesc} (hx : evalF f x = .string s) (hs : P.underlying src = some .string) (hd : P.underlying dst = some .string) : Val P ⟨some d, .convert src dst x, ty, pos, af, gd⟩ f L (.string s) := fun F w _ => by
  simp [execOp, hx, convert, run_underlying hs, run_underlying hd]
/-- A byte of one's own is written. -/
theorem set_take {α : Type} (l : List α) (m i : Nat) (x : α) (h : i < m) : (l.set i x).take m = (l.take m).set i x := by
  apply List.ext_getElem?
  intro j
  simp only [List.getElem?_take, List.getElem?_set, List.length_take]
  by_cases hj : j < m
  · by_cases hij : i = j
    · subst hij
      simp only [hj, if_true]
      by_cases hl : i < l.length
      · rw [if_pos hl, if_pos (by omega)]
      · rw [if_neg hl, if_neg (by omega)]
    · simp [hj, hij]
  · have : i ≠ j := by omega
    simp [hj, this]
theorem cellsOf_set {xs : List α} {i o : Nat} {u : Value} {a' : α} (hi : i < xs.length) (ho : o < Rep.sz α) (ha : Rep.cells a' = (Rep.cells (xs[i]'hi)).set o u) : (cellsOf xs).set (i * Rep.sz α + o) u = cellsOf (xs.set i a') := by
  induction xs generalizing i with
  | nil => simp at hi
  | cons x xs ih =>
    cases i with
    | zero =>
      simp only [Nat.zero_mul, Nat.zero_add, List.set_cons_zero, cellsOf, List.flatMap_cons]
      rw [List.set_append_left _ _ (by rw [Rep.len]; exact ho)]
      simp at ha
      rw [ha]
    | succ i =>
      simp only [List.set_cons_succ, cellsOf, List.flatMap_cons]
      have hl : (Rep.cells x).length = Rep.sz α := Rep.len x
      have : (i + 1) * Rep.sz α + o = (Rep.cells x).length + (i * Rep.sz α + o) := by rw [hl, Nat.add_mul]; omega
      rw [this, List.set_append_right _ _ (by omega)]
      have hi' : i < xs.length := by simpa using hi
      have := ih hi' (by simpa using ha)
      simp only [cellsOf] at this
      rw [show (Rep.cells x).length + (i * Rep.sz α + o) - (Rep.cells x).length = i * Rep.sz α + o by omega, this]
theorem st_storeS (r : Nat) {t e : TypeId} {x y : Operand} {i sz o : Nat} {u : Value} {a' : α} (hx : evalF f x = elt v (i * sz + o)) (hy : evalF f y = u) (h1 : u.oneCell' = true) (hr : L[r]? = some (RowT v e xs)) (hm : P.cellsOf t = 1) (hsz : Rep.sz α = sz) (hi : i < xs.length) (ho : Nat.blt o sz = true)
    (ha : Rep.cells a' = (Rep.cells (xs[i]'hi)).set o u) (h : ExL P n ops rest Q f (L.set r (RowT v e (xs.set i a')))) : ExL P n ops (⟨none, .store t x y, ty, pos, af, none⟩ :: rest) Q f L := by
  have ho := Nat.le_of_ble_eq_true ho
  subst hsz
  refine ExL.eff rfl rfl (R := fun _ L2 => L2 = L.set r (RowT v e (xs.set i a'))) (fun F w s => ?_) (fun v L2 e => by subst e; exact h)
  have hil : r < L.length := (List.getElem?_eq_some_iff.1 hr).1
  obtain ⟨hf, ⟨hl, hc⟩, dd, s'⟩ := Sats.pick hr s
  rcases hc with ⟨h0, _⟩ | ⟨g, cap, cur, rfl, rfl, hk, hcm, hsz2, htk⟩
  · omega
  · have hg := Sats.frame_left s' g _ (Frag.one_self g _)
    have hlt : i * Rep.sz α + o < xs.length * Rep.sz α := by
      have : (i + 1) * Rep.sz α ≤ xs.length * Rep.sz α := Nat.mul_le_mul_right _ hi
      rw [Nat.add_mul] at this
      omega
    have hcur : i * Rep.sz α + o < cur.size := by
      have : xs.length * Rep.sz α ≤ cap * Rep.sz α := Nat.mul_le_mul_right _ hk
      omega
    have hcell : w.cell? ⟨g, i * Rep.sz α + o, none⟩ = some cur[i * Rep.sz α + o] := by rw [cell_heap hg]; simp [hcur]
    have hfr : w.frozen? ⟨g, i * Rep.sz α + o, none⟩ = false := by rw [frozen_heap hg]; simp
    refine ⟨_, w.setCell ⟨g, i * Rep.sz α + o, none⟩ u, _, .inr ⟨?_, rfl⟩, Rest.refl w, ?_, rfl⟩
    · simp [execOp, hx, hy, elt, Instr.storeAt, Instr.sureAddr, storeVar, cells_one h1, run_sizeOf' w hm (by omega), storeCells, run_store P w _ u _ h1, addr_add, hcell, hfr]
    · refine Sats.rewrite (o' := .cells (cur.setIfInBounds (i * Rep.sz α + o) u) e (0, 0)) hil dd s' ?_ (fun k hk => ?_) ?_
      · refine ⟨cellsOf_len _, .inr ⟨g, cap, _, by simp, rfl, by simpa using hk, hcm, by simpa using hsz2, ?_⟩⟩
        rw [List.length_set, Array.toList_setIfInBounds, set_take _ _ _ _ hlt, htk, cellsOf_set hi ho ha]
      · rw [setCell_heap, if_neg hk]
      · rw [setCell_heap, if_pos rfl, hg]; simp
theorem st_storeB (r : Nat) {t e : TypeId} {x y : Operand} {i : Nat} {b : Int} {xs : List UInt8} (hx : evalF f x = elt v (i * 1 + 0)) (hy : evalF f y = .int .u8 b) (hb0 : 0 ≤ b) (hb1 : b ≤ 255) (hr : L[r]? = some (RowT v e xs)) (hm : P.cellsOf t = 1) (hi : i < xs.length)
    (h : ExL P n ops rest Q f (L.set r (RowT v e (xs.set i (UInt8.ofNat b.toNat))))) : ExL P n ops (⟨none, .store t x y, ty, pos, af, none⟩ :: rest) Q f L :=
  st_storeS r hx hy rfl hr hm rfl hi rfl (by
    show [Value.int .u8 ((UInt8.ofNat b.toNat).toNat : Int)] = [Value.int .u8 b]
    have : ((UInt8.ofNat b.toNat).toNat : Int) = b := by simp; omega
    rw [this]) h
end
end Go.Proofs.Ytkcpgdkchglhhaa
