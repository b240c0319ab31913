/- The walk's steps over slices. No condition. -/
import Derived.Test.YtkcpgdkchglhhaaSepN
namespace Go.Proofs.Ytkcpgdkchglhhaa
open Go.RowKit
set_option linter.unusedSimpArgs false
set_option linter.unusedVariables false
/-- Things that lie in cells. -/
class Rep (α : Type) where
  sz : Nat
  cells : α → List Value
  pos : 0 < sz
  len : ∀ a, (cells a).length = sz
  one : ∀ a, (cells a).all Value.oneCell' = true
instance : Rep UInt8 := ⟨1, fun b => [.int .u8 b.toNat], by decide, fun _ => rfl, fun _ => rfl⟩
instance : Rep Int := ⟨1, fun n => [.int .i64 n], by decide, fun _ => rfl, fun _ => rfl⟩
instance : Rep Bool := ⟨1, fun n => [.bool n], by decide, fun _ => rfl, fun _ => rfl⟩
/-- A text: its bytes. -/
structure Txt where
  l : List UInt8
@[reducible] def S (l : List UInt8) : ByteArray := ⟨l.toArray⟩
instance : Rep Txt := ⟨1, fun t => [.string (S t.l)], by decide, fun _ => rfl, fun _ => rfl⟩
def cellsOf {α : Type} [Rep α] (xs : List α) : List Value := xs.flatMap Rep.cells
theorem cellsOf_len {α : Type} [Rep α] (xs : List α) : (cellsOf xs).length = xs.length * Rep.sz α := by
  induction xs with
  | nil => simp [cellsOf]
  | cons a xs ih =>
    simp only [cellsOf, List.flatMap_cons, List.length_append, List.length_cons, Rep.len] at ih ⊢
    rw [ih, Nat.add_mul]; omega
theorem cellsOf_append {α : Type} [Rep α] (xs ys : List α) : cellsOf (xs ++ ys) = cellsOf xs ++ cellsOf ys := by simp [cellsOf]
theorem cellsOf_one {α : Type} [Rep α] (x : α) : cellsOf [x] = Rep.cells x := by simp [cellsOf]
theorem cellsOf_all {α : Type} [Rep α] (xs : List α) : ∀ u ∈ cellsOf xs, u.oneCell' = true := by
  intro u hu
  simp only [cellsOf, List.mem_flatMap] at hu
  obtain ⟨a, _, ha⟩ := hu
  exact List.all_eq_true.1 (Rep.one a) u ha
theorem cellsOf_drop {α : Type} [Rep α] (xs : List α) (i : Nat) : (cellsOf xs).drop (i * Rep.sz α) = cellsOf (xs.drop i) := by
  induction xs generalizing i with
  | nil => simp [cellsOf]
  | cons a xs ih =>
    cases i with
    | zero => simp
    | succ i =>
      have : (Rep.cells a).length = Rep.sz α := Rep.len a
      rw [show cellsOf (a :: xs) = Rep.cells a ++ cellsOf xs from by simp [cellsOf], List.drop_append, this, List.drop_eq_nil_of_le (by rw [this, Nat.add_mul]; omega), List.nil_append]
      rw [show (i + 1) * Rep.sz α - Rep.sz α = i * Rep.sz α by rw [Nat.add_mul]; omega, ih]
      rfl
theorem cellsOf_take {α : Type} [Rep α] (xs : List α) (i : Nat) : (cellsOf xs).take (i * Rep.sz α) = cellsOf (xs.take i) := by
  induction xs generalizing i with
  | nil => simp [cellsOf]
  | cons a xs ih =>
    cases i with
    | zero => simp [cellsOf]
    | succ i =>
      have : (Rep.cells a).length = Rep.sz α := Rep.len a
      rw [show cellsOf (a :: xs) = Rep.cells a ++ cellsOf xs from by simp [cellsOf], List.take_append, this, List.take_of_length_le (by rw [this, Nat.add_mul]; omega)]
      rw [show (i + 1) * Rep.sz α - Rep.sz α = i * Rep.sz α by rw [Nat.add_mul]; omega, ih]
      simp [cellsOf]
theorem cellsOf_get {α : Type} [Rep α] {xs : List α} {i o : Nat} (hi : i < xs.length) (ho : o < Rep.sz α) : (cellsOf xs)[i * Rep.sz α + o]? = (Rep.cells (xs[i]'hi))[o]? := by
  have h := cellsOf_drop xs i
  have h2 : ((cellsOf xs).drop (i * Rep.sz α))[o]? = (cellsOf (xs.drop i))[o]? := by rw [h]
  rw [List.getElem?_drop] at h2
  rw [h2, List.drop_eq_getElem_cons hi]
  rw [show ∀ ys : List α, cellsOf ((xs[i]'hi) :: ys) = Rep.cells (xs[i]'hi) ++ cellsOf ys from fun ys => by simp [cellsOf]]
  rw [List.getElem?_append_left (by rw [Rep.len]; exact ho)]
/-- v reads as the list xs. -/
def RdT {α : Type} [Rep α] (L : List Assn) (v : Value) (xs : List α) : Prop := Rd L v (Rep.sz α) xs.length (cellsOf xs)
/-- v is a slice of one's own: the list xs. -/
def RowT {α : Type} [Rep α] (v : Value) (t : TypeId) (xs : List α) : Assn := Row v t (Rep.sz α) xs.length (cellsOf xs)
theorem Sub.nil (L : List Assn) : Sub [] L := fun w F s => Sats.frame s
section
variable {α : Type} [Rep α] {L : List Assn} {v : Value} {xs : List α}
theorem RdT.row {t : TypeId} (i : Nat) (hi : L[i]? = some (RowT v t xs)) : RdT L v xs := rd_row i hi
theorem RdT.sub {L' : List Assn} (h : RdT L' v xs) (hs : Sub L' L) : RdT L v xs := rd_sub h hs
theorem RdT.nil (L : List Assn) : RdT L (.slice none 0 0) ([] : List α) := rd_nil L _
theorem RdT.base {W : World} (i : Nat) (hi : L[i]? = some (Base W)) (h : Sl W v (Rep.sz α) xs.length (cellsOf xs)) : RdT L v xs := rd_base i hi h
end
/-- The place m cells on from a slice's first one. -/
def elt (v : Value) (m : Nat) : Value := match v with
  | .slice (some a) _ _ => .pointer (some (a.add m))
  | _ => undef
/-- v[l:h]. -/
def subs (v : Value) (l h sz : Nat) : Value := match v with
  | .slice a n c => .slice (if c = l then a else a.map (·.add (l * sz))) (h - l) (c - l)
  | u => u
def subs3 (v : Value) (l h m sz : Nat) : Value := match v with
  | .slice a n c => .slice (if m = l then a else a.map (·.add (l * sz))) (h - l) (m - l)
  | u => u
theorem sl_sub {w : World} {v : Value} {sz k : Nat} {cs : List Value} (hs : Sl w v sz k cs) {l h m : Nat} (hm : ∀ a n c, v = .slice a n c → m ≤ c) (hl : l ≤ h) (hk : h ≤ k) (hhm : h ≤ m) :
    Sl w (subs3 v l h m sz) sz (h - l) ((cs.drop (l * sz)).take ((h - l) * sz)) := by
  obtain ⟨h1, a, cap, rfl, h3, h4, h5, h6⟩ := hs
  have hmc := hm a k cap rfl
  have hmul : h * sz ≤ k * sz := Nat.mul_le_mul_right _ hk
  have hmul2 : l * sz ≤ h * sz := Nat.mul_le_mul_right _ hl
  have hdiff : (h - l) * sz = h * sz - l * sz := Nat.sub_mul _ _ _
  refine ⟨by simp; omega, (if m = l then a else a.map (·.add (l * sz))), m - l, rfl, by omega, by omega, ?_, ?_⟩
  · intro ha
    split at ha
    · have := h5 ha; omega
    · cases a with
      | none => have := h5 rfl; omega
      | some ad => simp at ha
  · intro ad ha j u hu
    by_cases hml : m = l
    · rw [hml] at hhm
      have : h - l = 0 := by omega
      rw [this] at hu
      simp at hu
    · rw [if_neg hml] at ha
      cases a with
      | none => simp at ha
      | some a0 =>
        simp at ha
        subst ha
        rw [addr_add2]
        exact h6 a0 rfl _ _ (take_drop_get hu)
theorem sl_cap {w : World} {v : Value} {sz k : Nat} {cs : List Value} (hs : Sl w v sz k cs) : ∃ a c, v = .slice a k c ∧ k ≤ c ∧ c ≤ maxLen := by
  obtain ⟨h1, a, cap, rfl, h3, h4, h5, h6⟩ := hs
  exact ⟨a, cap, rfl, h3, h4⟩
theorem subs_eq (v : Value) (l h sz : Nat) : ∀ a n c, v = .slice a n c → subs v l h sz = subs3 v l h c sz := by
  rintro a n c rfl; rfl
theorem rd_subs {L : List Assn} {v : Value} {sz k : Nat} {cs : List Value} (hr : Rd L v sz k cs) {l h : Nat} (hl : l ≤ h) (hk : h ≤ k) : Rd L (subs v l h sz) sz (h - l) ((cs.drop (l * sz)).take ((h - l) * sz)) := fun w F s => by
  have hs := hr w F s
  obtain ⟨a, c, rfl, hkc, _⟩ := sl_cap hs
  rw [subs_eq _ _ _ _ a k c rfl]
  exact sl_sub hs (by rintro a' n' c' e; cases e; exact Nat.le_refl _) hl hk (by omega)
theorem rd_subs3 {L : List Assn} {v : Value} {sz k : Nat} {cs : List Value} (hr : Rd L v sz k cs) {l h m : Nat} (hl : l ≤ h) (hm : h ≤ m) (hk : m ≤ k) : Rd L (subs3 v l h m sz) sz (h - l) ((cs.drop (l * sz)).take ((h - l) * sz)) := fun w F s => by
  have hs := hr w F s
  obtain ⟨a, c, rfl, hkc, _⟩ := sl_cap hs
  exact sl_sub hs (by rintro a' n' c' e; cases e; omega) hl (by omega) hm
section
variable {α : Type} [Rep α] {L : List Assn} {v : Value} {xs : List α}
theorem take_drop_cells (l h : Nat) : ((cellsOf xs).drop (l * Rep.sz α)).take ((h - l) * Rep.sz α) = cellsOf ((xs.drop l).take (h - l)) := by
  rw [cellsOf_drop, cellsOf_take]
theorem RdT.subs (hr : RdT L v xs) {l h : Nat} (hl : l ≤ h) (hk : h ≤ xs.length) : RdT L (Go.Proofs.Ytkcpgdkchglhhaa.subs v l h (Rep.sz α)) ((xs.drop l).take (h - l)) := by
  have := rd_subs hr hl hk
  rw [take_drop_cells] at this
  unfold RdT
  rwa [show ((xs.drop l).take (h - l)).length = h - l by simp; omega]
theorem RdT.subs3 (hr : RdT L v xs) {l h m : Nat} (hl : l ≤ h) (hm : h ≤ m) (hk : m ≤ xs.length) : RdT L (Go.Proofs.Ytkcpgdkchglhhaa.subs3 v l h m (Rep.sz α)) ((xs.drop l).take (h - l)) := by
  have := rd_subs3 hr hl hm hk
  rw [take_drop_cells] at this
  unfold RdT
  rwa [show ((xs.drop l).take (h - l)).length = h - l by simp; omega]
end
section
variable {P : Program} {n : Nat} {ops : Array Oper} {Q : Post} {f : Nat → Value} {L : List Assn} {rest : List Oper} {d : Nat} {ty : TypeId} {pos : String} {af : Array Edge}
variable {α : Type} [Rep α] {v : Value} {xs : List α}
theorem st_len {x : Operand} {t e : TypeId} (hd : Nat.blt d n = true) (hx : evalF f x = v) (hu : P.underlying t = some (.slice e)) (hr : RdT L v xs) (h : ExL P n ops rest Q (upd f d (.int .i64 xs.length)) L) :
    ExL P n ops (⟨some d, .call ⟨.builtin .len, #[x], #[t]⟩, ty, pos, af, none⟩ :: rest) Q f L :=
  ExL.val rfl rfl hd (fun F w s => by
    obtain ⟨a, c, rfl, _, _⟩ := sl_cap (hr w F s)
    simp [execOp, resolve, invoke, builtin, hx, Builtin.len_, run_underlying hu, goInt]) h
/-- An index that is a number of elements. -/
theorem st_idxS {t e : TypeId} {x y : Operand} {k : IntKind} {j sz : Nat} (hd : Nat.blt d n = true) (hx : evalF f x = v) (hy : evalF f y = .int k (j : Int)) (hu : P.underlying t = some (.slice e)) (hr : RdT L v xs) (hs : P.cellsOf e = sz) (hsz : Rep.sz α = sz)
    (h1 : j < xs.length) (h : ExL P n ops rest Q (upd f d (elt v (j * sz + 0))) L) : ExL P n ops (⟨some d, .indexAddr t x y, ty, pos, af, none⟩ :: rest) Q f L :=
  ExL.val rfl rfl hd (fun F w s => by
    have hp : 0 < sz := by rw [← hsz]; exact Rep.pos
    obtain ⟨hl, a, c, rfl, hk, hm, hn, hcell⟩ := hr w F s
    cases a with
    | none => have := hn rfl; omega
    | some ad =>
      have h1' : (j : Int) < (xs.length : Int) := by omega
      simp [execOp, hx, hy, Instr.indexAt, run_underlying hu, asIntOf, h1, run_sizeOf' w hs hp, elt]) h
theorem st_idxSi {t e : TypeId} {x y : Operand} {k : IntKind} {j : Int} {sz : Nat} (hd : Nat.blt d n = true) (hx : evalF f x = v) (hy : evalF f y = .int k j) (hu : P.underlying t = some (.slice e)) (hr : RdT L v xs) (hs : P.cellsOf e = sz) (hsz : Rep.sz α = sz)
    (h0 : 0 ≤ j) (h1 : j < (xs.length : Int)) (h : ExL P n ops rest Q (upd f d (elt v (j.toNat * sz + 0))) L) : ExL P n ops (⟨some d, .indexAddr t x y, ty, pos, af, none⟩ :: rest) Q f L := by
  obtain ⟨m, rfl⟩ := Int.eq_ofNat_of_zero_le h0
  exact st_idxS hd hx hy hu hr hs hsz (by omega) (by simpa using h)
theorem st_fieldE {s : TypeId} {x : Operand} {b o fi off : Nat} (hd : Nat.blt d n = true) (hx : evalF f x = elt v (b + o)) (hp : ∃ a k c, v = .slice (some a) k c) (hf : fieldOff P s fi = some off)
    (h : ExL P n ops rest Q (upd f d (elt v (b + (o + off)))) L) : ExL P n ops (⟨some d, .fieldAddr s x fi, ty, pos, af, none⟩ :: rest) Q f L :=
  ExL.val rfl rfl hd (fun F w s => by
    obtain ⟨a, k, c, rfl⟩ := hp
    simp [execOp, hx, elt, run_fieldAt w hf, addr_add2, Nat.add_assoc]) h
theorem some_of_lt {w : World} (hr : Sl w v (Rep.sz α) xs.length (cellsOf xs)) {i : Nat} (hi : i < xs.length) : ∃ a c, v = .slice (some a) xs.length c ∧ ∀ j u, (cellsOf xs)[j]? = some u → w.cell? (a.add j) = some u := by
  obtain ⟨hl, a, c, rfl, hk, hm, hn, hcell⟩ := hr
  cases a with
  | none => have := hn rfl; omega
  | some ad => exact ⟨ad, c, rfl, hcell ad rfl⟩
theorem st_fieldS {s : TypeId} {x : Operand} {i sz o fi off : Nat} (hd : Nat.blt d n = true) (hx : evalF f x = elt v (i * sz + o)) (hr : RdT L v xs) (hi : i < xs.length) (hf : fieldOff P s fi = some off)
    (h : ExL P n ops rest Q (upd f d (elt v (i * sz + (o + off)))) L) : ExL P n ops (⟨some d, .fieldAddr s x fi, ty, pos, af, none⟩ :: rest) Q f L :=
  ExL.val rfl rfl hd (fun F w s => by
    obtain ⟨a, c, rfl, _⟩ := some_of_lt (hr w F s) hi
    simp [execOp, hx, elt, run_fieldAt w hf, addr_add2, Nat.add_assoc]) h
/-- An index into an array in an element. -/
theorem st_idxE {t e : TypeId} {x y : Operand} {k : IntKind} {i sz o m es : Nat} {j : Int} (hd : Nat.blt d n = true) (hx : evalF f x = elt v (i * sz + o)) (hy : evalF f y = .int k j) (hu : P.underlying t = some (.array m e)) (hs : P.cellsOf e = es) (hp : Nat.blt 0 es = true) (hr : RdT L v xs) (hi : i < xs.length)
    (h0 : 0 ≤ j) (h1 : j < (m : Int)) (h : ExL P n ops rest Q (upd f d (elt v (i * sz + (o + j.toNat * es)))) L) : ExL P n ops (⟨some d, .indexAddr t x y, ty, pos, af, none⟩ :: rest) Q f L :=
  ExL.val rfl rfl hd (fun F w s => by
    obtain ⟨a, c, rfl, _⟩ := some_of_lt (hr w F s) hi
    simp [execOp, hx, hy, elt, Instr.indexAt, run_underlying hu, asIntOf, Instr.sureAddr, h0, h1, run_sizeOf' w hs (Nat.le_of_ble_eq_true hp), addr_add2, Nat.add_assoc]) h
theorem st_loadS1 {t : TypeId} {x : Operand} {i sz o : Nat} {u : Value} (hd : Nat.blt d n = true) (hx : evalF f x = elt v (i * sz + o)) (hA : aggB P t = some false) (hr : RdT L v xs) (hi : i < xs.length) (hsz : Rep.sz α = sz) (hv : (Rep.cells (xs[i]'hi))[o]? = some u)
    (h : ExL P n ops rest Q (upd f d u) L) : ExL P n ops (⟨some d, .load t x, ty, pos, af, none⟩ :: rest) Q f L :=
  ExL.val rfl rfl hd (fun F w s => by
    obtain ⟨a, c, rfl, hcell⟩ := some_of_lt (hr w F s) hi
    have ho : o < Rep.sz α := by rw [← Rep.len (xs[i]'hi)]; exact (List.getElem?_eq_some_iff.1 hv).1
    have := hcell (i * sz + o) u (by rw [← hsz, cellsOf_get hi ho, hv])
    simp [execOp, hx, elt, Instr.loadAt, Instr.sureAddr, run_loadVar1 w hA this]) h
theorem st_loadSA {t : TypeId} {x : Operand} {i sz o m : Nat} {us : List Value} (hd : Nat.blt d n = true) (hx : evalF f x = elt v (i * sz + o)) (hA : aggB P t = some true) (hm : P.cellsOf t = m) (hp : Nat.blt 0 m = true) (hr : RdT L v xs) (hi : i < xs.length) (hsz : Rep.sz α = sz) (hle : Nat.ble (o + m) sz = true)
    (hv : ((Rep.cells (xs[i]'hi)).drop o).take m = us) (h : ExL P n ops rest Q (upd f d (.agg us.toArray)) L) : ExL P n ops (⟨some d, .load t x, ty, pos, af, none⟩ :: rest) Q f L :=
  ExL.val rfl rfl hd (fun F w s => by
    obtain ⟨a, c, rfl, hcell⟩ := some_of_lt (hr w F s) hi
    have hle := Nat.le_of_ble_eq_true hle
    have hp := Nat.le_of_ble_eq_true hp
    have hlen : us.length = m := by rw [← hv]; simp [Rep.len]; omega
    have := run_loadVarA (P := P) w (t := t) (a := a.add (i * sz + o)) (cs := us) hA (by rw [hm, hlen]) (by omega) (fun j u hj => by
      rw [addr_add2]
      rw [← hv] at hj
      have hj' := take_drop_get hj
      have ho : o + j < Rep.sz α := by rw [← Rep.len (xs[i]'hi)]; exact (List.getElem?_eq_some_iff.1 hj').1
      exact hcell _ u (by rw [← hsz, Nat.add_assoc, cellsOf_get hi ho, hj']))
    simp [execOp, hx, elt, Instr.loadAt, Instr.sureAddr, this]) h
end
end Go.Proofs.Ytkcpgdkchglhhaa
