/- Function values; slices of slices as values; a slice made to grow. No condition. -/
import Derived.Test.YtmjpdibjdgjhgaaSepT
import Derived.Lib.AppendZeros
namespace Go.Proofs.Ytmjpdibjdgjhgaa
open Go.RowKit
set_option linter.unusedSimpArgs false
set_option linter.unusedVariables false
/-- A value of one cell. -/
structure Sv where
  v : Value
  one : v.oneCell' = true
instance : Rep Sv := ⟨1, fun b => [b.v], by decide, fun _ => rfl, fun b => by simp [b.one]⟩
section
variable {P : Program} {n : Nat} {ops : Array Oper} {Q : Post} {f : Nat → Value} {L : List Assn} {rest : List Oper} {d : Nat} {ty : TypeId} {pos : String} {af : Array Edge} {gd : Option (Nat × Bool)}
theorem vl_makeFunc {fn : Go.Fn} {first : List Operand} {vs : List Value} (h : first.map (evalF f) = vs) : Val P ⟨some d, .makeFunc fn first.toArray #[], ty, pos, af, gd⟩ f L (.func fn vs.toArray #[]) := fun F w s => by
  subst h
  simp [execOp, Instr.makeFunc]
/-- A call through a function value. -/
theorem st_callV (is : List Nat) {dd : Option Nat} {x : Operand} {fn : FuncId} {xs : List Operand} {fs vs : List Value} {ts : Array TypeId} {L1 : List Assn} {R : Value → List Assn → Prop} (hd : dstOk n dd = true) (hx : evalF f x = .func (.func fn) fs.toArray #[])
    (hrun : ∀ (xs : Array Value) (w : World), (callFunc fn xs).run P w = .ok (.enter fn xs) w) (hl : fronts is L = L1) (ha : xs.map (evalF f) = vs) (hf : Fn P fn (fs ++ vs).toArray L1 R) (h : ∀ v L', R v L' → ExL P n ops rest Q (updo f dd v) L') :
    ExL P n ops (⟨dd, .call ⟨.value x, xs.toArray, ts⟩, ty, pos, af, none⟩ :: rest) Q f L := by
  have hf := hf.sub (L := L) (by subst hl; exact fronts_sub is L)
  intro F w0 f0 ws a w H hc
  refine wpList_plain rfl fun K hK => ?_
  have hx2 : (execOp a.eval ⟨dd, .call ⟨.value x, xs.toArray, ts⟩, ty, pos, af, none⟩).run P w = .ok (.enter fn (fs ++ vs).toArray) w := by
    rw [H.2.1.eval]
    subst ha
    unfold execOp
    simp [resolve, Deferred.ofValue, hx, invoke, hrun]
  unfold Oper.wp
  rw [hx2]
  show Calls P fn _ w _
  refine (hf F w0 w H.1 H.2.2.1).mono ?_
  rintro e w' ⟨v, L', rfl, hr, hs, hR⟩
  have hp : Here n F w0 f0 ws (a.put dd v) w' (updo f dd v) L' := by
    have := Here.puto (w' := w) H (Rest.refl w) H.2.2.1 hd (fun t ht => hc t (mem_writesL (o := ⟨dd, .call ⟨.value x, xs.toArray, ts⟩, ty, pos, af, none⟩) (t := 0) ht)) v
    exact ⟨hr, this.2.1, hs, this.2.2.2⟩
  exact hK _ _ (h v L' hR F w0 f0 ws _ _ hp fun d hd => hc d (mem_writesL' hd))
theorem vl_capNil {x : Operand} {t e : TypeId} (hx : evalF f x = .slice none 0 0) (hu : P.underlying t = some (.slice e)) :
    Val P ⟨some d, .call ⟨.builtin .cap, #[x], #[t]⟩, ty, pos, af, gd⟩ f L (.int .i64 0) := fun F w s => by
  simp [execOp, resolve, invoke, builtin, hx, Builtin.cap_, run_underlying hu, goInt]
variable {α : Type} [Rep α]
/-- append(nil, make([]T, m)...). -/
theorem st_growNil {t tn e : TypeId} [Z : ZRep P e α] {x y : Operand} {k kn : IntKind} {m : Nat} {by_ : Nat} (hd : Nat.blt d n = true) (hx : evalF f x = .slice none 0 0) (hy : evalF f y = .int k (m : Int)) (ht : P.underlying t = some (.slice e)) (htn : P.underlying tn = some (.int kn)) (hby : P.bytesOf e = by_) (h0 : 0 < m) (hb : m * by_ ≤ 140737488355328) (hm : m ≤ 140737488355328)
    (h : ∀ v', v'.oneCell' = true → ExL P n ops rest Q (upd f d v') (RowT v' e (List.replicate m Z.z) :: L)) : ExL P n ops (⟨some d, .call ⟨.builtin .append, #[x, y], #[t, tn]⟩, ty, pos, af, none⟩ :: rest) Q f L := by
  refine ExL.eff rfl hd (R := fun v' L' => v'.oneCell' = true ∧ L' = RowT v' e (List.replicate m Z.z) :: L) (fun F w s => ?_) (fun v' L' e => by obtain ⟨e1, rfl⟩ := e; exact h v' e1)
  obtain ⟨inf, z, hinf, hsize, hbytes, hzero, hzc⟩ : ∃ i z, P.info? e = some i ∧ i.size = Rep.sz α ∧ i.bytes = by_ ∧ i.zero = some z ∧ z.cells = (Rep.cells Z.z).toArray := by
    have hz := Z.eq
    have hs := Z.size
    unfold zeroC at hz
    unfold Program.cellsOf at hs
    unfold Program.bytesOf at hby
    cases hi : P.info? e with
    | none => rw [hi] at hz; cases hz
    | some inf =>
      rw [hi] at hz hs hby
      simp at hz hs hby
      obtain ⟨z, hz1, hz2⟩ := hz
      exact ⟨inf, z, rfl, hs, hby, hz1, by rw [← hz2]⟩
  have hrun := Lib.run_append_nil_zeros (P := P) w t tn ty e inf z k kn ht htn hinf hzero m h0 (by rw [hsize]; exact Rep.pos) (by omega) (by rw [hbytes]; omega)
  have hge := grownCap_ge w m 0 e
  have hcm : grownCap w m 0 e ≤ maxLen := grownCap_le_maxLen w m 0 e (by unfold maxLen; omega)
  have hzs : z.cells.size = Rep.sz α := by rw [hzc]; simp [Rep.len]
  refine ⟨.slice (some ⟨w.heap.size, 0, none⟩) m (grownCap w m 0 e), w.drew.alloc (.cells (Builtin.zeroCells z.cells m ++ Builtin.zeroCells z.cells (grownCap w m 0 e - m)) e), _, .inl (by simp [execOp, resolve, invoke, builtin, hx, hy, hrun]), Rest.alloc (Rest.drew (Rest.refl w)) _, Sats.alloc (w := w.drew) _ (Sats.drew s) (A := RowT (.slice (some ⟨w.heap.size, 0, none⟩) m (grownCap w m 0 e)) e (List.replicate m Z.z)) ?_, rfl, rfl⟩
  refine ⟨cellsOf_len _, .inr ⟨w.heap.size, _, _, by simp, rfl, by simpa using hge, hcm, ?_, ?_⟩⟩
  · simp only [Array.size_append, size_zeroCells, hzs, ← Nat.add_mul]
    congr 1
    omega
  · have hz0 : z.cells.toList = Rep.cells Z.z := by rw [hzc]
    simp only [Array.toList_append, List.length_replicate]
    rw [zeroCells_rep hz0, List.take_append_of_le_length (by rw [cellsOf_len]; simp), List.take_of_length_le (by rw [cellsOf_len]; simp)]
end
end Go.Proofs.Ytmjpdibjdgjhgaa
