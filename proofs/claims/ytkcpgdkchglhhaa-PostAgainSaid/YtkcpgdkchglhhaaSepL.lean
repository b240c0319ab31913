/- The walk's steps over one region. No condition. -/
import Derived.Test.YtkcpgdkchglhhaaSep
namespace Go.Proofs.Ytkcpgdkchglhhaa
open Go.RowKit
set_option linter.unusedSimpArgs false
set_option linter.unusedVariables false
/-- The operations l, begun with the temporaries f and owning L, end in Q. -/
def ExL (P : Program) (n : Nat) (ops : Array Oper) (l : List Oper) (Q : Post) (f : Nat → Value) (L : List Assn) : Prop :=
  ∀ D F w0 f0 ws a w, Here D n F w0 f0 ws a w f L → (∀ d, d ∈ writesL l → ws d = true) → wpList P ops (Lift D n F w0 f0 ws Q) l a w
/-- The operation yields v, in whatever world that has L, and leaves it. -/
def Val (P : Program) (o : Oper) (f : Nat → Value) (L : List Assn) (v : Value) : Prop :=
  ∀ F w, Sats w L F → (execOp (evalF f) o).run P w = .ok (.value v) w
/-- The operation yields some v of R, and what is owned turns as R says. -/
def Eff (P : Program) (o : Oper) (f : Nat → Value) (L : List Assn) (R : Value → List Assn → Prop) : Prop :=
  ∀ F w, Sats w L F → ∃ v w' L', ((execOp (evalF f) o).run P w = .ok (.value v) w' ∨ ((execOp (evalF f) o).run P w = .ok .skip w' ∧ v = undef)) ∧ Rest w w' ∧ Sats w' L' F ∧ R v L'
/-- What a function does, owning L: R of what it returns and of what is owned then. -/
def Fn (P : Program) (k : FuncId) (args : Array Value) (L : List Assn) (R : Value → List Assn → Prop) : Prop :=
  ∀ F w0 w, Rest w0 w → Sats w L F → Calls P k args w fun e w' => ∃ v L', e = .returned v ∧ Rest w0 w' ∧ Sats w' L' F ∧ R v L'
def updo (f : Nat → Value) : Option Nat → Value → Nat → Value
  | some d, v => upd f d v
  | none, _ => f
def dstOk (n : Nat) : Option Nat → Bool
  | some d => Nat.blt d n
  | none => true
theorem Agree.puto {D : List Deferred} {n : Nat} {a : Act} {f : Nat → Value} (h : Agree D n a f) {d : Option Nat} (hd : dstOk n d = true) (v : Value) : Agree D n (a.put d v) (updo f d v) := by
  cases d with
  | none => exact h
  | some d => exact h.put (Nat.le_of_ble_eq_true hd) v
section
variable {P : Program} {n : Nat} {ops : Array Oper} {Q : Post} {f : Nat → Value} {L : List Assn} {o : Oper} {rest : List Oper}
theorem Here.puto {D : List Deferred} {F : Frag} {w0 : World} {f0 : Nat → Value} {ws : Nat → Bool} {a : Act} {w w' : World} {L' : List Assn} (h : Here D n F w0 f0 ws a w f L) (hr : Rest w w') (hs : Sats w' L' F)
    {d : Option Nat} (hd : dstOk n d = true) (hw : ∀ t, d = some t → ws t = true) (v : Value) : Here D n F w0 f0 ws (a.put d v) w' (updo f d v) L' := by
  refine ⟨h.1.trans hr, h.2.1.puto hd v, hs, fun t ht => ?_⟩
  cases d with
  | none => exact h.2.2.2 t ht
  | some d =>
    have : t ≠ d := by rintro rfl; rw [hw t rfl] at ht; cases ht
    show upd f d v t = _
    rw [upd_other _ _ this]
    exact h.2.2.2 t ht
theorem mem_writesL {d t : Nat} (hd : o.dst = some d) : d ∈ writesL (o :: rest) := by simp [writesL, hd]
theorem mem_writesL' {t : Nat} (h : t ∈ writesL rest) : t ∈ writesL (o :: rest) := by
  unfold writesL
  split
  · exact List.mem_cons_of_mem _ h
  · exact h
theorem ExL.nil (h : Q .normal f L) : ExL P n ops [] Q f L := fun D F w0 f0 ws a w H _ => wpList_nil ⟨f, L, H, h⟩
theorem Ex.region {id : Nat} (h : ExL P n ops ops.toList Q f L) : Ex P n (.region id ops false) Q f L := fun D F w0 f0 ws a w H hc =>
  wp_region_list (h D F w0 f0 ws a w H hc)
theorem yielded_of {D : List Deferred} {F : Frag} {w0 : World} {f0 : Nat → Value} {ws : Nat → Bool} {a : Act} {w : World} (H : Here D n F w0 f0 ws a w f L) {j s : Nat} {b : Bool} (hs : (ops[j]?).bind (·.dst) = some s) (hsn : Nat.blt s n = true) (hb : f s = .bool b) :
    yielded ops a.tmps j = some b := by
  have h := H.2.1.2.2 s
  have hl : s < a.tmps.size := by rw [H.2.1.2.1]; exact Nat.le_of_ble_eq_true hsn
  rw [hb] at h
  unfold yielded
  rw [hs]
  simp only [Option.bind_some]
  have : a.tmps[s]? = some (.bool b) := by
    rw [Array.getElem?_eq_getElem hl]
    simp [Array.getD, hl] at h
    rw [h]
  rw [this]
theorem wanted_none {y : Nat → Option Bool} (hg : o.guard = none) : Region.wanted o y = true := by simp [Region.wanted, hg]
theorem ExL.eff (hg : o.guard = none) (hd : dstOk n o.dst = true) {R : Value → List Assn → Prop} (he : Eff P o f L R) (h : ∀ v L', R v L' → ExL P n ops rest Q (updo f o.dst v) L') : ExL P n ops (o :: rest) Q f L := by
  intro D F w0 f0 ws a w H hc
  refine wpList_plain hg fun K hK => ?_
  obtain ⟨v, w', L', hrun, hr, hs, hR⟩ := he F w H.2.2.1
  have hp := H.puto hr hs hd (fun t ht => hc t (mem_writesL (t := 0) ht)) v
  unfold Oper.wp
  rw [H.2.1.eval]
  rcases hrun with hrun | ⟨hrun, rfl⟩
  · rw [hrun]
    exact hK _ _ (h v L' hR D F w0 f0 ws _ _ hp fun d hd => hc d (mem_writesL' hd))
  · rw [hrun]
    exact hK _ _ (h _ L' hR D F w0 f0 ws _ _ hp fun d hd => hc d (mem_writesL' hd))
theorem ExL.val {v : Value} {d : Nat} (hg : o.guard = none) (ho : o.dst = some d) (hd : Nat.blt d n = true) (hv : Val P o f L v) (h : ExL P n ops rest Q (upd f d v) L) : ExL P n ops (o :: rest) Q f L := by
  refine ExL.eff hg (by rw [ho]; exact hd) (R := fun u L' => u = v ∧ L' = L) (fun F w s => ⟨v, w, L, .inl (hv F w s), Rest.refl w, s, rfl, rfl⟩) ?_
  rintro u L' ⟨rfl, rfl⟩
  rw [ho]
  exact h
theorem ExL.call {fn : FuncId} {args : Array Operand} {ts : Array TypeId} (hg : o.guard = none) (hd : dstOk n o.dst = true) (ho : o.op = .call { callee := .value (.func fn), args := args, argTypes := ts })
    (hrun : ∀ (xs : Array Value) (w : World), (callFunc fn xs).run P w = .ok (.enter fn xs) w) {R : Value → List Assn → Prop} (hf : Fn P fn (args.map (evalF f)) L R) (h : ∀ v L', R v L' → ExL P n ops rest Q (updo f o.dst v) L') : ExL P n ops (o :: rest) Q f L := by
  intro D F w0 f0 ws a w H hc
  refine wpList_plain hg fun K hK => ?_
  have hx : (execOp a.eval o).run P w = .ok (.enter fn (args.map (evalF f))) w := by
    rw [H.2.1.eval]
    unfold execOp
    rw [ho]
    simp [resolve, Deferred.ofValue, evalF, invoke, hrun]
  unfold Oper.wp
  rw [hx]
  show Calls P fn _ w _
  refine (hf F w0 w H.1 H.2.2.1).mono ?_
  rintro e w' ⟨v, L', rfl, hr, hs, hR⟩
  have hp : Here D n F w0 f0 ws (a.put o.dst v) w' (updo f o.dst v) L' := by
    have := Here.puto (w' := w) H (Rest.refl w) H.2.2.1 hd (fun t ht => hc t (mem_writesL (t := 0) ht)) v
    exact ⟨hr, this.2.1, hs, this.2.2.2⟩
  exact hK _ _ (h v L' hR D F w0 f0 ws _ _ hp fun d hd => hc d (mem_writesL' hd))
/-- A guarded operation that is not carried out. -/
theorem ExL.gskip {j s : Nat} {want b : Bool} (hg : o.guard = some (j, want)) (hs : (ops[j]?).bind (·.dst) = some s) (hsn : Nat.blt s n = true) (hb : f s = .bool b) (hne : (b == want) = false) (hd : dstOk n o.dst = true)
    (h : ExL P n ops rest Q (updo f o.dst undef) L) : ExL P n ops (o :: rest) Q f L := by
  intro D F w0 f0 ws a w H hc
  have hy := yielded_of (ops := ops) H hs hsn hb
  refine wpList_step fun K hK => ?_
  have hw : Region.wanted o (yielded ops a.tmps) = false := by
    simp only [Region.wanted, hg, hy]
    cases b <;> cases want <;> simp_all
  rw [hw]
  have hp := H.puto (Rest.refl w) H.2.2.1 hd (fun t ht => hc t (mem_writesL (t := 0) ht)) undef
  exact hK _ _ (h D F w0 f0 ws _ _ hp fun d hd => hc d (mem_writesL' hd))
/-- A guarded operation that is carried out. -/
theorem ExL.gtake {j s : Nat} {want : Bool} (hg : o.guard = some (j, want)) (hs : (ops[j]?).bind (·.dst) = some s) (hsn : Nat.blt s n = true) (hb : f s = .bool want)
    (h : ExL P n ops ({ o with guard := none } :: rest) Q f L) : ExL P n ops (o :: rest) Q f L := by
  intro D F w0 f0 ws a w H hc
  have hy := yielded_of (ops := ops) H hs hsn hb
  have hw : Region.wanted o (yielded ops a.tmps) = true := by
    simp only [Region.wanted, hg, hy]
    simp
  have h1 := h D F w0 f0 ws a w H (by simpa [writesL] using hc)
  unfold wpList at h1 ⊢
  rw [if_pos (wanted_none rfl)] at h1
  rw [if_pos hw]
  exact h1
theorem ExL.eqv {f' : Nat → Value} (he : f = f') (h : ExL P n ops rest Q f' L) : ExL P n ops rest Q f L := he ▸ h
theorem upd_eq {f : Nat → Value} {s : Nat} {v : Value} (h : f s = v) : f = upd f s v := by
  funext t
  by_cases ht : t = s
  · subst ht; rw [upd_self, h]
  · rw [upd_other _ _ ht]
/-- A guard that is not known: both ways. -/
theorem ExL.gsplit {j s : Nat} {want : Bool} {p : Prop} [i : Decidable p] (hg : o.guard = some (j, want)) (hs : (ops[j]?).bind (·.dst) = some s) (hb : f s = .bool (decide p))
    (ht : p → ExL P n ops (o :: rest) Q (upd f s (.bool true)) L) (hf : ¬p → ExL P n ops (o :: rest) Q (upd f s (.bool false)) L) : ExL P n ops (o :: rest) Q f L := by
  by_cases h : p
  · exact ExL.eqv (upd_eq (by rw [hb, decide_eq_true h])) (ht h)
  · exact ExL.eqv (upd_eq (by rw [hb, decide_eq_false h])) (hf h)
theorem ExL.gsplitb {j s : Nat} {want b : Bool} (hg : o.guard = some (j, want)) (hs : (ops[j]?).bind (·.dst) = some s) (hb : f s = .bool b)
    (ht : b = true → ExL P n ops (o :: rest) Q (upd f s (.bool true)) L) (hf : b = false → ExL P n ops (o :: rest) Q (upd f s (.bool false)) L) : ExL P n ops (o :: rest) Q f L := by
  cases b with
  | true => exact ExL.eqv (upd_eq hb) (ht rfl)
  | false => exact ExL.eqv (upd_eq hb) (hf rfl)
end
/-- What is returned. -/
def ResV (P : Program) (fn : Func) (f : Nat → Value) (L : List Assn) (v : Value) : Prop := ∀ F w (tmps : Array Value), (∀ t, tmps.getD t undef = f t) → Sats w L F → (results fn tmps).run P w = .ok v w
def fin (P : Program) (fn : Func) (R : Value → List Assn → Prop) : Post
  | .normal, f, L | .ret, f, L => ∃ v L', ResV P fn f L v ∧ Sub L' L ∧ R v L'
  | _, _, _ => False
def frame0 (args : Array Value) : Nat → Value := fun t => args.toList.getD t undef
theorem Fn.of_ex {P : Program} {k : FuncId} {fn : Func} {c : Code} {args : Array Value} {L : List Assn} {R : Value → List Assn → Prop} {n : Nat} (hf : P.funcs[k]? = some fn) (hb : fn.body = some c) (hnn : fn.ntmps = n) (hn : Nat.ble args.size n = true)
    (h : Ex P n c (fin P fn R) (frame0 args) L) : Fn P k args L R := by
  subst hnn
  have hn := Nat.le_of_ble_eq_true hn
  intro F w0 w r s
  refine calls_of_wp hf hb ?_
  have ag : Agree [] fn.ntmps { tmps := args ++ Array.replicate (fn.ntmps - args.size) undef, defers := [] } (frame0 args) := by
    refine ⟨rfl, by simp; omega, fun t => ?_⟩
    simp only [frame0, Array.getD_eq_getD_getElem?, List.getD_eq_getElem?_getD, Array.getElem?_toList]
    by_cases ht : t < args.size
    · rw [Array.getElem?_append_left ht]
    · rw [Array.getElem?_append_right (by omega), Array.getElem?_replicate, Array.getElem?_eq_none (show args.size ≤ t by omega)]
      split <;> rfl
  refine wp_mono (h [] F w0 (frame0 args) (fun _ => true) _ w ⟨r, ag, s, fun t ht => by cases ht⟩ (fun _ _ => rfl)) ?_
  rintro e a w ⟨f, L', ⟨r, ag, s, _⟩, q⟩
  cases e with
  | normal => obtain ⟨v, L2, hv, hs, hR⟩ := q; exact ⟨ag.1, v, hv F w a.tmps ag.2.2 s, v, L2, rfl, r, hs w F s, hR⟩
  | ret => obtain ⟨v, L2, hv, hs, hR⟩ := q; exact ⟨ag.1, v, hv F w a.tmps ag.2.2 s, v, L2, rfl, r, hs w F s, hR⟩
  | _ => exact q.elim
theorem Fn.mono {P : Program} {k : FuncId} {args : Array Value} {L : List Assn} {R R' : Value → List Assn → Prop} (h : Fn P k args L R) (hr : ∀ v L', R v L' → R' v L') : Fn P k args L R' := fun F w0 w r s =>
  (h F w0 w r s).mono fun e w' ⟨v, L', he, hr', hs, hR⟩ => ⟨v, L', he, hr', hs, hr v L' hR⟩
theorem Fn.sub {P : Program} {k : FuncId} {args : Array Value} {L L' : List Assn} {R : Value → List Assn → Prop} (h : Fn P k args L' R) (hs : Sub L' L) : Fn P k args L R := fun F w0 w r s => h F w0 w r (hs w F s)
/-- A contract in the elder words: nothing that was there turns. -/
theorem kp_sats {w w' : World} (hk : Kp w w') {L : List Assn} {F : Frag} (s : Sats w L F) : Sats w' L F :=
  Sats.world (fun n o h => by rw [Kp.block hk n (Array.getElem?_eq_some_iff.1 h).1]; exact h) s
theorem kp_rest {w w' : World} (hk : Kp w w') : Rest w w' := ⟨Below.os hk, Below.tape hk, Below.output hk⟩
theorem Fn.of_kp {P : Program} {k : FuncId} {args : Array Value} {L : List Assn} {v : Value} (h : ∀ w, Calls P k args w fun e w' => e = .returned v ∧ Kp w w') : Fn P k args L fun u L' => u = v ∧ L' = L := fun F w0 w r s =>
  (h w).mono fun e w' ⟨he, hk⟩ => ⟨v, L, he, r.trans (kp_rest hk), kp_sats hk s, rfl, rfl⟩
/-- All that the world holds. -/
def Base (W : World) : Assn := fun h => ∀ n, h n = W.heap[n]?
theorem base_sats (W : World) : Sats W [Base W] (fun _ => none) :=
  ⟨fun n => W.heap[n]?, fun _ => rfl, fun _ => .inr rfl, fun n o e => by unfold Frag.add at e; cases hn : W.heap[n]? with | some x => simp only [hn] at e; exact e | none => simp only [hn] at e; cases e⟩
theorem base_heap {W w : World} {F : Frag} (s : Sats w [Base W] F) : ∀ k, k < W.heap.size → w.heap[k]? = W.heap[k]? := by
  obtain ⟨h, a, d, s⟩ := s
  intro k hk
  have := s k (W.heap[k]) (by unfold Frag.add; rw [a k, Array.getElem?_eq_getElem hk])
  rw [this, Array.getElem?_eq_getElem hk]
/-- A law's walk, in the elder words. -/
theorem yes_of_fn {P : Program} {k : FuncId} {args : Array Value} {W : World} (h : Fn P k args [Base W] fun v L' => v = .bool true ∧ L' = [Base W]) : Calls P k args W (Yes W) :=
  (h (fun _ => none) W W (Rest.refl W) (base_sats W)).mono fun e w' ⟨v, L', he, hr, hs, hv, hL⟩ => by
    subst hv; subst hL
    refine ⟨he, ?_⟩
    show RowKit.Below _ _ _
    refine ⟨hr.1, hr.2.1, hr.2.2, ?_, base_heap hs⟩
    by_cases hz : W.heap.size = 0
    · omega
    · have := base_heap hs (W.heap.size - 1) (by omega)
      rw [Array.getElem?_eq_getElem (show W.heap.size - 1 < W.heap.size by omega)] at this
      have := (Array.getElem?_eq_some_iff.1 this).1
      omega
end Go.Proofs.Ytkcpgdkchglhhaa
