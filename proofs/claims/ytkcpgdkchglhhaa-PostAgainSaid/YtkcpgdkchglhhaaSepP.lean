/- What is not looked at any more is forgotten; a row moved onto itself (slices.Delete). No condition. -/
import Derived.Test.YtkcpgdkchglhhaaSepK
namespace Go.Proofs.Ytkcpgdkchglhhaa
open Go.RowKit
set_option linter.unusedSimpArgs false
set_option linter.unusedVariables false
theorem kcons {f : Nat → Value} {a : Nat} {l : List Nat} {v : Value} {vs : List Value} (h : f a = v) (t : l.map f = vs) : (a :: l).map f = v :: vs := by rw [List.map_cons, h, t]
theorem knil {f : Nat → Value} : ([] : List Nat).map f = [] := rfl
section
variable {P : Program} {n : Nat} {Q : Post} {f : Nat → Value} {L : List Assn} {c : Code} {ops : Array Oper} {l : List Oper}
/-- The slots ss, and no others, are remembered. -/
theorem Ex.keep (ss : List Nat) {vs : List Value} (hv : ss.map f = vs) (h : ∀ g, Ex P n c Q (upds g ss vs) L) : Ex P n c Q f L := by
  have := h f
  rw [← hv, upds_self] at this
  exact this
theorem ExL.keep (ss : List Nat) {vs : List Value} (hv : ss.map f = vs) (h : ∀ g, ExL P n ops l Q (upds g ss vs) L) : ExL P n ops l Q f L := by
  have := h f
  rw [← hv, upds_self] at this
  exact this
end
/-- Code that the walk does not step into. -/
def Hid (c : Code) : Code := c
def sufC : Nat → Code → Code
  | 0, c => c
  | k + 1, .seq _ b => sufC k b
  | _ + 1, c => c
def hidC : Nat → Code → Code
  | 0, c => Hid c
  | k + 1, .seq a b => .seq a (hidC k b)
  | _ + 1, c => Hid c
theorem hidC_eq : ∀ (k : Nat) (c : Code), hidC k c = c
  | 0, c => rfl
  | k + 1, c => by
    cases c with
    | seq a b => show Code.seq a (hidC k b) = _; rw [hidC_eq k b]
    | _ => rfl
section
variable {P : Program} {n : Nat} {Q : Post} {f : Nat → Value} {L : List Assn} {c y : Code} {ops : Array Oper} {l : List Oper}
/-- Ways that meet, k statements on: the slots ss are in the relation I there, with what is owned. -/
theorem Ex.claim (k : Nat) (ss : List Nat) (I : List Value → List Assn → Prop) (hy : ∀ vs g L', I vs L' → Ex P n (sufC k c) Q (upds g ss vs) L')
    (hx : (∀ f L, (∃ L', Sub L' L ∧ I (ss.map f) L') → Ex P n (Hid (sufC k c)) Q f L) → Ex P n (hidC k c) Q f L) : Ex P n c Q f L := by
  rw [hidC_eq] at hx
  refine hx fun f L ⟨L', hs, h⟩ => ?_
  have := hy _ f L' h
  rw [upds_self] at this
  exact Ex.sub this hs
theorem ExL.claim (k : Nat) (ss : List Nat) (I : List Value → List Assn → Prop) (hy : ∀ vs g L', I vs L' → Ex P n (sufC k y) Q (upds g ss vs) L')
    (hx : (∀ f L, (∃ L', Sub L' L ∧ I (ss.map f) L') → Ex P n (Hid (sufC k y)) Q f L) → ExL P n ops l (thn P n (hidC k y) Q) f L) : ExL P n ops l (thn P n y Q) f L := by
  rw [hidC_eq] at hx
  refine hx fun f L ⟨L', hs, h⟩ => ?_
  have := hy _ f L' h
  rw [upds_self] at this
  exact Ex.sub this hs
/-- The walk stops k statements on. -/
theorem Ex.halt (k : Nat) (h : Ex P n (hidC k c) Q f L) : Ex P n c Q f L := by rw [hidC_eq] at h; exact h
theorem ExL.halt (k : Nat) (h : ExL P n ops l (thn P n (hidC k y) Q) f L) : ExL P n ops l (thn P n y Q) f L := by rw [hidC_eq] at h; exact h
theorem Ex.go (h : Ex P n c Q f L) : Ex P n (Hid c) Q f L := h
end
section
variable {P : Program} {n : Nat} {ops : Array Oper} {Q : Post} {f : Nat → Value} {L : List Assn} {α : Type} [Rep α]
variable {kd : Nat → Nat} {Lb : List Assn} {Z : (Nat → Value) → List Assn → Prop} {i : Nat} {l : List (Nat × Oper)} {d : Nat} {ty : TypeId} {pos : String} {af : Array Edge}
/-- []T{a}, in a region that draws its order. -/
theorem mx_slice1T {t e : TypeId} [Z2 : ZRep P e α] {y : Operand} {a : α} (hk : kd i = 1) (hy : evalF f y = .agg (Rep.cells a).toArray) (hu : P.underlying t = some (.slice e)) (hmx : Nat.ble (Rep.sz α) 16777216 = true)
    (h : ∀ g, Mix P n ops kd Lb Z l (upd f d (.slice (some ⟨g, 0, none⟩) 1 1)) (RowT (.slice (some ⟨g, 0, none⟩) 1 1) e [a] :: L)) : Mix P n ops kd Lb Z ((i, ⟨some d, .buildSlice t 1 #[(0, y)], ty, pos, af, none⟩) :: l) f L := by
  have hzl : (Rep.cells Z2.z).length = Rep.sz α := Rep.len _
  have hl : ((lay (offE (Rep.sz α)) (zerosE (Rep.cells Z2.z) 1) [(0, Rep.cells a)]).bind seqL) = some (Rep.cells a) := by
    have h1 : Nat.beq (Rep.cells a).length (Rep.sz α) = true := by rw [Rep.len]; simp
    have h2 : Nat.ble (0 * Rep.sz α + Rep.sz α) (zerosE (Rep.cells Z2.z) 1).length = true := by simp [zerosE, hzl]
    simp only [lay, offE, h1, h2, Bool.and_true]
    have h3 : over (zerosE (Rep.cells Z2.z) 1) (0 * Rep.sz α) (Rep.cells a) = Rep.cells a := by
      simp only [over, zerosE, Nat.zero_mul, List.take_zero, List.nil_append, List.append_nil, Nat.zero_add]
      rw [List.drop_eq_nil_of_le (by rw [hzl, Rep.len]; exact Nat.le_refl _), List.append_nil]
    rw [h3]
    exact seqL_some _
  refine mx_new (obj := .cells (Rep.cells a).toArray e) (mk := fun g => .slice (some ⟨g, 0, none⟩) 1 1) (fun g => RowT (.slice (some ⟨g, 0, none⟩) 1 1) e [a]) hk rfl rfl (fun w => ?_) (fun g => ?_) h
  · have hrun := run_buildSlice (P := P) (w := w) (f := f) (parts := [(0, y)]) (ps := [(0, Rep.cells a)]) hu Z2.size (Nat.ble_eq_true_of_le (show 0 + 1 ≤ _ from Rep.pos)) (show Nat.blt 0 1 = true by rfl) (by rw [Nat.one_mul]; exact hmx) Z2.eq hzl ⟨rfl, by rw [hy]; simp [Value.cells], trivial⟩ hl
    simp only [execOp, Sem.run_bind, hrun, Result.andThen_ok, Sem.run_pure]
  · refine ⟨cellsOf_len _, .inr ⟨g, _, _, rfl, rfl, Nat.le_refl _, by unfold maxLen; simp, by simp [Rep.len], by simp [cellsOf, ← Rep.len a]⟩⟩
end
/-- v is a slice of n elements: what needs no memory. -/
def Capd (v : Value) (n : Nat) : Prop := ∃ a c, v = .slice a n c ∧ n ≤ c ∧ c ≤ maxLen
theorem RdT.capd {α : Type} [Rep α] {L : List Assn} {v : Value} {xs : List α} (hr : RdT L v xs) (w : World) (F : Frag) (s : Sats w L F) : Capd v xs.length := by
  obtain ⟨a, c, h1, h2, h3⟩ := hr.cap s
  exact ⟨a, c, h1, h2, h3⟩
section
variable {P : Program} {n : Nat} {ops : Array Oper} {Q : Post} {f : Nat → Value} {L : List Assn} {d : Nat} {ty : TypeId} {pos : String} {af : Array Edge} {gd : Option (Nat × Bool)} {v : Value} {q : Nat}
theorem vl_lenc {x : Operand} {t e : TypeId} (hx : evalF f x = v) (hu : P.underlying t = some (.slice e)) (hc : Capd v q) :
    Val P ⟨some d, .call ⟨.builtin .len, #[x], #[t]⟩, ty, pos, af, gd⟩ f L (.int .i64 q) := fun F w s => by
  obtain ⟨a, c, rfl, _, _⟩ := hc
  simp [execOp, resolve, invoke, builtin, hx, Builtin.len_, run_underlying hu, goInt]
theorem vl_slHc {t e : TypeId} {x y : Operand} {k : IntKind} {h : Int} {sz : Nat} (hx : evalF f x = v) (hy : evalF f y = .int k h) (hu : P.underlying t = some (.slice e)) (hs : P.cellsOf e = sz) (hp : Nat.blt 0 sz = true) (hc : Capd v q) (h0 : 0 ≤ h) (h1 : h ≤ (q : Int)) :
    Val P ⟨some d, .slice t x none (some y) none, ty, pos, af, gd⟩ f L (subs v 0 h.toNat sz) := fun F w s => by
  obtain ⟨a, c, rfl, hc, _⟩ := hc
  have := run_sl (P := P) (w := w) (a := a) (k := q) (c := c) (lo := none) (hi := some (.int k h)) (mx := none) hu hs (Nat.le_of_ble_eq_true hp) (l := 0) (h := h.toNat) (m := c) (by
    simp only [Instr.sliceBounds, Sem.run_bind, Sem.run_pure, Result.andThen_ok, run_bd h0 (show h ≤ (c : Int) by omega)])
  simp [execOp, hx, hy, this, subs]
theorem vl_slLc {t e : TypeId} {x y : Operand} {k : IntKind} {l : Int} {sz : Nat} (hx : evalF f x = v) (hy : evalF f y = .int k l) (hu : P.underlying t = some (.slice e)) (hs : P.cellsOf e = sz) (hp : Nat.blt 0 sz = true) (hc : Capd v q) (h0 : 0 ≤ l) (h1 : l ≤ (q : Int)) :
    Val P ⟨some d, .slice t x (some y) none none, ty, pos, af, gd⟩ f L (subs v l.toNat q sz) := fun F w s => by
  obtain ⟨a, c, rfl, hc, _⟩ := hc
  have := run_sl (P := P) (w := w) (a := a) (k := q) (c := c) (lo := some (.int k l)) (hi := none) (mx := none) hu hs (Nat.le_of_ble_eq_true hp) (l := l.toNat) (h := q) (m := c) (by
    simp only [Instr.sliceBounds, Sem.run_bind, Sem.run_pure, Result.andThen_ok, run_bd h0 h1])
  simp [execOp, hx, hy, this, subs]
end
section
variable {α : Type} [Rep α]
theorem subs_subs {v : Value} {h k sz : Nat} (hv : ∃ a n c, v = .slice a n c ∧ (0 < c ∨ a = none)) : subs (subs v 0 h sz) h k sz = subs v h k sz := by
  obtain ⟨a, n, c, rfl, h0⟩ := hv
  simp only [subs, Nat.sub_zero, Nat.zero_mul]
  have : (if c = 0 then a else a.map (·.add 0)) = a := by
    split
    · rfl
    · cases a <;> simp [Addr.add]
  rw [this]
/-- append(v[:i], v[j:]...): v a row of one's own. -/
theorem row_shift {P : Program} {w : World} {L : List Assn} {F : Frag} {v : Value} {e t ty : TypeId} {xs : List α} {sz i j r : Nat} (hi : L[r]? = some (RowT v e xs)) (ht : P.underlying t = some (.slice e))
    (hs : P.cellsOf e = sz) (hsz : Rep.sz α = sz) (hij : i < j) (hjk : j ≤ xs.length) (s : Sats w L F) :
    ∃ w', (Builtin.append_ #[t, t] ty #[subs v 0 i sz, subs v j xs.length sz]).run P w = .ok (subs v 0 (i + (xs.length - j)) sz) w' ∧ Rest w w' ∧ Sats w' (L.set r (RowT v e (xs.take i ++ xs.drop j ++ xs.drop (i + (xs.length - j))))) F := by
  have hp : 0 < sz := by rw [← hsz]; exact Rep.pos
  obtain ⟨inf, hinf, hsize⟩ : ∃ inf, P.info? e = some inf ∧ inf.size = sz := by
    unfold Program.cellsOf at hs
    cases hh : P.info? e with
    | none => rw [hh] at hs; simp at hs; omega
    | some x => rw [hh] at hs; exact ⟨x, rfl, by simpa using hs⟩
  obtain ⟨hl, hv⟩ := row_heap hi s
  have hsrc := (RdT.off (RdT.row r hi) hjk hsz rfl) w F s
  rcases hv with ⟨h0, _⟩ | ⟨g, cap, cur, rfl, hg, hk, hm, hz, htk⟩
  · omega
  have hc0 : ¬ cap = 0 := by omega
  have e0 : ∀ h, subs (.slice (some ⟨g, 0, none⟩) xs.length cap) 0 h sz = .slice (some ⟨g, 0, none⟩) h cap := fun h => by simp [subs, hc0, addr_add]
  have e1 : ∃ a, subs (.slice (some ⟨g, 0, none⟩) xs.length cap) j xs.length sz = .slice (some a) (xs.length - j) (cap - j) := by
    by_cases hcj : cap = j
    · exact ⟨⟨g, 0, none⟩, by simp [subs, hcj]⟩
    · exact ⟨_, by simp only [subs, if_neg hcj]; rfl⟩
  obtain ⟨a, ea⟩ := e1
  rw [ea] at hsrc
  have hdl : (xs.drop j).length = xs.length - j := by simp
  rw [hdl] at hsrc
  obtain ⟨hl2, a', c', he, _, _, _, hcell⟩ := hsrc
  cases he
  have hnews := hcell a rfl
  have hroom : i + (xs.length - j) ≤ cap := by omega
  have hf := run_firstCells_some (P := P) w sz (xs.length - j) a (xs.length - j) (cap - j) (cellsOf (xs.drop j)) (by rw [cellsOf_len, hsz, hdl]) hnews
  have key : ∃ w', (storeCells ⟨g, i * sz, none⟩ (cellsOf (xs.drop j)) 0).run P w = .ok () w' ∧ Rest w w' ∧ Sats w' (L.set r (RowT (.slice (some ⟨g, 0, none⟩) xs.length cap) e (xs.take i ++ xs.drop j ++ xs.drop (i + (xs.length - j))))) F := by
    by_cases hjx : j = xs.length
    · subst hjx
      refine ⟨w, by simp [cellsOf, storeCells], Rest.refl w, ?_⟩
      have : xs.take i ++ xs.drop xs.length ++ xs.drop (i + (xs.length - xs.length)) = xs := by simp
      rw [this, list_set_same hi]; exact s
    · have hdp : 0 < (cellsOf (xs.drop j)).length := by rw [cellsOf_len, hdl]; exact Nat.mul_pos (by omega) Rep.pos
      obtain ⟨g', w', ⟨c2, he2⟩, hrun, hre, hsat⟩ := row_write (P := P) (w := w) (o := i * sz) (us := cellsOf (xs.drop j)) (xs' := xs.take i ++ xs.drop j ++ xs.drop (i + (xs.length - j))) hi (by
          rw [cellsOf_len, hdl, ← hsz, ← Nat.add_mul]; exact Nat.mul_le_mul_right _ (by omega)) hdp (by rw [List.all_eq_true]; exact cellsOf_all _) (by
          rw [cellsOf_len, hdl, ← hsz, ← Nat.add_mul, cellsOf_append, cellsOf_append, cellsOf_take, cellsOf_drop]) (by simp; omega) s
      cases he2
      exact ⟨w', hrun, hre, hsat⟩
  obtain ⟨w', hrun, hre, hsat⟩ := key
  refine ⟨w', ?_, hre, hsat⟩
  rw [e0, e0, ea]
  simp [Builtin.append_, run_underlying ht, sizeOf, typeInfo, hinf, hsize, Builtin.lenOf, hroom, hf, addr_add, hrun]
section
variable {P : Program} {n : Nat} {ops : Array Oper} {Q : Post} {f : Nat → Value} {L : List Assn} {rest : List Oper} {d : Nat} {ty : TypeId} {pos : String} {af : Array Edge} {gd : Option (Nat × Bool)}
theorem st_shift (r : Nat) {x y : Operand} {v : Value} {t e : TypeId} {xs : List α} {sz i j k : Nat} (hd : Nat.blt d n = true) (hx : evalF f x = subs v 0 i sz) (hy : evalF f y = subs v j k sz) (hi : L[r]? = some (RowT v e xs)) (hk : k = xs.length) (ht : P.underlying t = some (.slice e))
    (hs : P.cellsOf e = sz) (hsz : Rep.sz α = sz) (hij : i < j) (hjk : j ≤ xs.length)
    {L2 : List Assn} (hL : L.set r (RowT v e (xs.take i ++ xs.drop j ++ xs.drop (i + (xs.length - j)))) = L2) (h : ExL P n ops rest Q (upd f d (subs v 0 (i + (xs.length - j)) sz)) L2) : ExL P n ops (⟨some d, .call ⟨.builtin .append, #[x, y], #[t, t]⟩, ty, pos, af, none⟩ :: rest) Q f L := by
  subst hk; subst hL
  refine ExL.eff rfl hd (R := fun v2 L' => v2 = subs v 0 (i + (xs.length - j)) sz ∧ L' = L.set r (RowT v e (xs.take i ++ xs.drop j ++ xs.drop (i + (xs.length - j))))) (fun F w s => ?_) (fun v' L' e => by obtain ⟨rfl, rfl⟩ := e; exact h)
  obtain ⟨w', hrun, hre, hsat⟩ := row_shift (P := P) (ty := ty) hi ht hs hsz hij hjk s
  exact ⟨_, w', _, .inl (by simp [execOp, resolve, invoke, builtin, hx, hy, hrun]), hre, hsat, rfl, rfl⟩
/-- clear(x[l:]), of things with a zero. -/
theorem st_clearT (i : Nat) {x : Operand} {v : Value} {xs : List α} {t e : TypeId} [Z : ZRep P e α] {l k sz : Nat} {L' : List Assn} (hx : evalF f x = subs v l k sz) (hi : L[i]? = some (RowT v e xs)) (hk : k = xs.length) (hsz : Rep.sz α = sz) (ht : P.underlying t = some (.slice e)) (hl : l ≤ xs.length)
    (hL : L.set i (RowT v e (xs.take l ++ List.replicate (xs.length - l) Z.z)) = L') (h : ExL P n ops rest Q f L') : ExL P n ops (⟨none, .call ⟨.builtin .clear, #[x], #[t]⟩, ty, pos, af, none⟩ :: rest) Q f L := by
  subst hL
  exact st_clear i Z.z hx hi hk hsz ht Z.eq rfl hl h
/-- v[:h][h:k]: up to what v had. -/
theorem vl_slBeyond (r : Nat) {x y z : Operand} {v : Value} {t e : TypeId} {xs : List α} {k k' : IntKind} {a0 b0 : Int} {h m : Nat} {sz : Nat} (hx : evalF f x = subs v 0 h sz) (hy : evalF f y = .int k a0) (hz : evalF f z = .int k' b0) (hi : L[r]? = some (RowT v e xs)) (hu : P.underlying t = some (.slice e))
    (hs : P.cellsOf e = sz) (hsz : Rep.sz α = sz) (ha : a0 = (h : Int)) (hb : b0.toNat = m) (hb0 : 0 ≤ b0) (hlh : h ≤ b0.toNat) (h1 : b0.toNat ≤ xs.length) : Val P ⟨some d, .slice t x (some y) (some z) none, ty, pos, af, gd⟩ f L (subs v h m sz) := fun F w s => by
  subst ha; subst hb
  obtain ⟨m, rfl⟩ := Int.eq_ofNat_of_zero_le hb0
  simp only [Int.toNat_natCast] at *
  have hp : 0 < sz := by rw [← hsz]; exact Rep.pos
  obtain ⟨_, hv⟩ := row_heap hi s
  have hv2 : ∃ a c, v = .slice a xs.length c ∧ xs.length ≤ c ∧ (0 < c ∨ h = 0) := by
    rcases hv with ⟨h0, b, rfl⟩ | ⟨g, cap, cur, rfl, hg, hk, hm, hz, htk⟩
    · exact ⟨b, 0, by rw [h0], by omega, .inr (by omega)⟩
    · exact ⟨_, cap, rfl, hk, by omega⟩
  obtain ⟨a, c, rfl, hc, hc0⟩ := hv2
  have e0 : subs (.slice a xs.length c) 0 h sz = .slice a h c := by
    simp only [subs, Nat.zero_mul, Nat.sub_zero]
    congr 1
    split
    · rfl
    · cases a <;> simp [Addr.add]
  rw [e0] at hx
  have := run_sl (P := P) (w := w) (a := a) (k := h) (c := c) (lo := some (.int k (h : Int))) (hi := some (.int k' (m : Int))) (mx := none) hu hs hp (l := h) (h := m) (m := c) (by
    simp only [Instr.sliceBounds, Sem.run_bind, Sem.run_pure, Result.andThen_ok, run_bd (show (0 : Int) ≤ m by omega) (show (m : Int) ≤ (c : Int) by omega), run_bd (show (0 : Int) ≤ h by omega) (show (h : Int) ≤ ((m : Nat) : Int) by omega), Int.toNat_natCast])
  simp [execOp, hx, hy, hz, this, subs]
theorem vl_slLHM {x y z u : Operand} {v : Value} {t e : TypeId} {xs : List α} {k k' k2 : IntKind} {l h m : Int} {sz : Nat} (hx : evalF f x = v) (hy : evalF f y = .int k l) (hz : evalF f z = .int k' h) (hm : evalF f u = .int k2 m) (hu : P.underlying t = some (.slice e)) (hr : RdT L v xs) (hs : P.cellsOf e = sz) (hp : Nat.blt 0 sz = true) (h0 : 0 ≤ l) (hlh : l ≤ h) (hhm : h ≤ m) (h1 : m ≤ (xs.length : Int)) :
    Val P ⟨some d, .slice t x (some y) (some z) (some u), ty, pos, af, gd⟩ f L (subs3 v l.toNat h.toNat m.toNat sz) := fun F w s => by
  obtain ⟨a, c, rfl, hc, _⟩ := hr.cap s
  have := run_sl (P := P) (w := w) (a := a) (k := xs.length) (c := c) (lo := some (.int k l)) (hi := some (.int k' h)) (mx := some (.int k2 m)) hu hs (Nat.le_of_ble_eq_true hp) (l := l.toNat) (h := h.toNat) (m := m.toNat) (by
    simp only [Instr.sliceBounds, Sem.run_bind, Sem.run_pure, Result.andThen_ok, run_bd (show 0 ≤ m by omega) (show m ≤ (c : Int) by omega), run_bd (show 0 ≤ h by omega) (show h ≤ (m.toNat : Int) by omega), run_bd h0 (show l ≤ (h.toNat : Int) by omega)])
  simp [execOp, hx, hy, hz, hm, this, subs3]
end
end
end Go.Proofs.Ytkcpgdkchglhhaa
