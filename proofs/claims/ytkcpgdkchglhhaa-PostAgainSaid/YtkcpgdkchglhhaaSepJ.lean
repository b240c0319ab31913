/- Closures; a function with one deferred call. No condition. -/
import Derived.Test.YtkcpgdkchglhhaaSepP
import Derived.Defers
namespace Go.Proofs.Ytkcpgdkchglhhaa
open Go.RowKit
set_option linter.unusedSimpArgs false
set_option linter.unusedVariables false
section
variable {P : Program} {n : Nat} {ops : Array Oper} {Q : Post} {f : Nat → Value} {L : List Assn} {rest : List Oper} {d : Nat} {ty : TypeId} {pos : String} {af : Array Edge} {gd : Option (Nat × Bool)}
/-- A function value: what it has been given already, what it has caught. -/
theorem vl_makeClo {fn : Go.Fn} {first caps : List Operand} {vs us : List Value} (h : first.map (evalF f) = vs) (h2 : caps.map (evalF f) = us) : Val P ⟨some d, .makeFunc fn first.toArray caps.toArray, ty, pos, af, gd⟩ f L (.func fn vs.toArray us.toArray) := fun F w s => by
  subst h; subst h2
  simp [execOp, Instr.makeFunc]
/-- A call through such a value. -/
theorem st_callC (is : List Nat) {dd : Option Nat} {x : Operand} {fn : FuncId} {xs : List Operand} {fs us vs : List Value} {ts : Array TypeId} {L1 : List Assn} {R : Value → List Assn → Prop} (hd : dstOk n dd = true) (hx : evalF f x = .func (.func fn) fs.toArray us.toArray)
    (hrun : ∀ (xs : Array Value) (w : World), (callFunc fn xs).run P w = .ok (.enter fn xs) w) (hl : fronts is L = L1) (ha : xs.map (evalF f) = vs) (hf : Fn P fn (fs ++ vs ++ us).toArray L1 R) (h : ∀ v L', R v L' → ExL P n ops rest Q (updo f dd v) L') :
    ExL P n ops (⟨dd, .call ⟨.value x, xs.toArray, ts⟩, ty, pos, af, none⟩ :: rest) Q f L := by
  have hf := hf.sub (L := L) (by subst hl; exact fronts_sub is L)
  intro D F w0 f0 ws a w H hc
  refine wpList_plain rfl fun K hK => ?_
  have hx2 : (execOp a.eval ⟨dd, .call ⟨.value x, xs.toArray, ts⟩, ty, pos, af, none⟩).run P w = .ok (.enter fn (fs ++ vs ++ us).toArray) w := by
    rw [H.2.1.eval]
    subst ha
    unfold execOp
    simp [resolve, Deferred.ofValue, hx, invoke, hrun]
  unfold Oper.wp
  rw [hx2]
  show Calls P fn _ w _
  refine (hf F w0 w H.1 H.2.2.1).mono ?_
  rintro e w' ⟨v, L', rfl, hr, hs, hR⟩
  have hp : Here D n F w0 f0 ws (a.put dd v) w' (updo f dd v) L' := by
    have := Here.puto (w' := w) H (Rest.refl w) H.2.2.1 hd (fun t ht => hc t (mem_writesL (o := ⟨dd, .call ⟨.value x, xs.toArray, ts⟩, ty, pos, af, none⟩) (t := 0) ht)) v
    exact ⟨hr, this.2.1, hs, this.2.2.2⟩
  exact hK _ _ (h v L' hR D F w0 f0 ws _ _ hp fun d hd => hc d (mem_writesL' hd))
end
section
variable {P : Program} {n : Nat} {ops : Array Oper} {Q : Post} {f : Nat → Value} {L : List Assn} {rest : List Oper} {d : Nat} {ty : TypeId} {pos : String} {af : Array Edge} {gd : Option (Nat × Bool)}
theorem lay_one {zs : List Value} {v : Value} (hzl : zs.length = 1) : ((lay (offE 1) (zerosE zs 1) [(0, [v])]).bind seqL) = some [v] := by
  match zs, hzl with
  | [z], _ => simp only [lay, offE, zerosE, List.append_nil, List.length_cons, List.length_nil, Nat.zero_mul]; exact seqL_some [v]
/-- []T{v}, of one cell. -/
theorem st_slice1V {α : Type} [Rep α] (a : α) {t e : TypeId} {y : Operand} {v : Value} {zs : List Value} (hd : Nat.blt d n = true) (hy : evalF f y = v) (h1 : v.oneCell' = true) (hu : P.underlying t = some (.slice e)) (hs : P.cellsOf e = 1) (hz : zeroC P e = some zs) (hzl : zs.length = 1) (ha : Rep.cells a = [v])
    (h : ∀ g, ExL P n ops rest Q (upd f d (.slice (some ⟨g, 0, none⟩) 1 1)) (RowT (.slice (some ⟨g, 0, none⟩) 1 1) e [a] :: L)) : ExL P n ops (⟨some d, .buildSlice t 1 #[(0, y)], ty, pos, af, none⟩ :: rest) Q f L :=
  st_sliceN (parts := [(0, y)]) (ps := [(0, [v])]) (vs := [v]) [a] hd hu hs rfl rfl rfl hz hzl ⟨rfl, by rw [hy, cells_one h1], trivial⟩ (lay_one hzl) (by simp [cellsOf, ha]) rfl (by rw [← Rep.len a, ha]; rfl) h
theorem st_slice1I {t e : TypeId} {y : Operand} {j : Int} {zs : List Value} (hd : Nat.blt d n = true) (hy : evalF f y = .int .i64 j) (hu : P.underlying t = some (.slice e)) (hs : P.cellsOf e = 1) (hz : zeroC P e = some zs) (hzl : zs.length = 1)
    (h : ∀ g, ExL P n ops rest Q (upd f d (.slice (some ⟨g, 0, none⟩) 1 1)) (RowT (.slice (some ⟨g, 0, none⟩) 1 1) e [j] :: L)) : ExL P n ops (⟨some d, .buildSlice t 1 #[(0, y)], ty, pos, af, none⟩ :: rest) Q f L :=
  st_slice1V j hd hy rfl hu hs hz hzl rfl h
theorem u8_cell {b : Int} (h0 : 0 ≤ b) (h1 : b ≤ 255) : Rep.cells (UInt8.ofNat b.toNat) = [Value.int .u8 b] := by
  show [Value.int .u8 ((UInt8.ofNat b.toNat).toNat : Int)] = [Value.int .u8 b]
  have : ((UInt8.ofNat b.toNat).toNat : Int) = b := by simp; omega
  rw [this]
theorem st_slice1B {t e : TypeId} {y : Operand} {b : Int} {zs : List Value} (hd : Nat.blt d n = true) (hy : evalF f y = .int .u8 b) (hu : P.underlying t = some (.slice e)) (hs : P.cellsOf e = 1) (hz : zeroC P e = some zs) (hzl : zs.length = 1) (h0 : 0 ≤ b) (h1 : b ≤ 255)
    (h : ∀ g, ExL P n ops rest Q (upd f d (.slice (some ⟨g, 0, none⟩) 1 1)) (RowT (.slice (some ⟨g, 0, none⟩) 1 1) e [UInt8.ofNat b.toNat] :: L)) : ExL P n ops (⟨some d, .buildSlice t 1 #[(0, y)], ty, pos, af, none⟩ :: rest) Q f L :=
  st_slice1V (UInt8.ofNat b.toNat) hd hy rfl hu hs hz hzl (u8_cell h0 h1) h
variable {kd : Nat → Nat} {Lb : List Assn} {Z : (Nat → Value) → List Assn → Prop} {i : Nat} {l : List (Nat × Oper)}
theorem mx_slice1V {α : Type} [Rep α] (a : α) {t e : TypeId} {y : Operand} {v : Value} {zs : List Value} (hk : kd i = 1) (hy : evalF f y = v) (h1 : v.oneCell' = true) (hu : P.underlying t = some (.slice e)) (hs : P.cellsOf e = 1) (hz : zeroC P e = some zs) (hzl : zs.length = 1) (ha : Rep.cells a = [v])
    (h : ∀ g, Mix P n ops kd Lb Z l (upd f d (.slice (some ⟨g, 0, none⟩) 1 1)) (RowT (.slice (some ⟨g, 0, none⟩) 1 1) e [a] :: L)) : Mix P n ops kd Lb Z ((i, ⟨some d, .buildSlice t 1 #[(0, y)], ty, pos, af, none⟩) :: l) f L := by
  have hsz : Rep.sz α = 1 := by rw [← Rep.len a, ha]; rfl
  refine mx_new (obj := .cells [v].toArray e) (mk := fun g => .slice (some ⟨g, 0, none⟩) 1 1) (fun g => RowT (.slice (some ⟨g, 0, none⟩) 1 1) e [a]) hk rfl rfl (fun w => ?_) (fun g => ?_) h
  · have hrun := run_buildSlice (P := P) (w := w) (f := f) (parts := [(0, y)]) (ps := [(0, [v])]) (sz := 1) hu hs rfl (show Nat.blt 0 1 = true by rfl) rfl hz hzl ⟨rfl, by rw [hy, cells_one h1], trivial⟩ (lay_one hzl)
    simp only [execOp, Sem.run_bind, hrun, Result.andThen_ok, Sem.run_pure]
  · refine ⟨cellsOf_len _, .inr ⟨g, 1, _, rfl, rfl, Nat.le_refl _, by unfold maxLen; omega, by simp [hsz], by simp [hsz, cellsOf, ha]⟩⟩
theorem mx_slice1I {t e : TypeId} {y : Operand} {j : Int} {zs : List Value} (hk : kd i = 1) (hy : evalF f y = .int .i64 j) (hu : P.underlying t = some (.slice e)) (hs : P.cellsOf e = 1) (hz : zeroC P e = some zs) (hzl : zs.length = 1)
    (h : ∀ g, Mix P n ops kd Lb Z l (upd f d (.slice (some ⟨g, 0, none⟩) 1 1)) (RowT (.slice (some ⟨g, 0, none⟩) 1 1) e [j] :: L)) : Mix P n ops kd Lb Z ((i, ⟨some d, .buildSlice t 1 #[(0, y)], ty, pos, af, none⟩) :: l) f L :=
  mx_slice1V j hk hy rfl hu hs hz hzl rfl h
theorem mx_slice1B {t e : TypeId} {y : Operand} {b : Int} {zs : List Value} (hk : kd i = 1) (hy : evalF f y = .int .u8 b) (hu : P.underlying t = some (.slice e)) (hs : P.cellsOf e = 1) (hz : zeroC P e = some zs) (hzl : zs.length = 1) (h0 : 0 ≤ b) (h1 : b ≤ 255)
    (h : ∀ g, Mix P n ops kd Lb Z l (upd f d (.slice (some ⟨g, 0, none⟩) 1 1)) (RowT (.slice (some ⟨g, 0, none⟩) 1 1) e [UInt8.ofNat b.toNat] :: L)) : Mix P n ops kd Lb Z ((i, ⟨some d, .buildSlice t 1 #[(0, y)], ty, pos, af, none⟩) :: l) f L :=
  mx_slice1V (UInt8.ofNat b.toNat) hk hy rfl hu hs hz hzl (u8_cell h0 h1) h
end
section
variable {P : Program} {n : Nat} {ops : Array Oper} {Q : Post} {f : Nat → Value} {L : List Assn} {rest : List Oper} {d : Nat} {ty : TypeId} {pos : String} {af : Array Edge} {gd : Option (Nat × Bool)}
theorem lay_two {zs : List Value} {v u : Value} (hzl : zs.length = 1) : ((lay (offE 1) (zerosE zs 2) [(0, [v]), (1, [u])]).bind seqL) = some [v, u] := by
  match zs, hzl with
  | [z], _ => simp only [lay, offE, zerosE, List.append_nil, List.length_cons, List.length_nil, Nat.zero_mul, Nat.one_mul]; exact seqL_some [v, u]
/-- []byte{x, y}. -/
theorem st_slice2B {t e : TypeId} {x y : Operand} {a b : Int} {zs : List Value} (hd : Nat.blt d n = true) (hx : evalF f x = .int .u8 a) (hy : evalF f y = .int .u8 b) (hu : P.underlying t = some (.slice e)) (hs : P.cellsOf e = 1) (hz : zeroC P e = some zs) (hzl : zs.length = 1) (ha : 0 ≤ a) (ha1 : a ≤ 255) (h0 : 0 ≤ b) (h1 : b ≤ 255)
    (h : ∀ g, ExL P n ops rest Q (upd f d (.slice (some ⟨g, 0, none⟩) 2 2)) (RowT (.slice (some ⟨g, 0, none⟩) 2 2) e [UInt8.ofNat a.toNat, UInt8.ofNat b.toNat] :: L)) : ExL P n ops (⟨some d, .buildSlice t 2 #[(0, x), (1, y)], ty, pos, af, none⟩ :: rest) Q f L :=
  st_sliceN (parts := [(0, x), (1, y)]) (ps := [(0, [.int .u8 a]), (1, [.int .u8 b])]) (vs := [.int .u8 a, .int .u8 b]) [UInt8.ofNat a.toNat, UInt8.ofNat b.toNat] hd hu hs rfl rfl rfl hz hzl ⟨rfl, by rw [hx]; rfl, rfl, by rw [hy]; rfl, trivial⟩ (lay_two hzl) (by show Rep.cells _ ++ (Rep.cells _ ++ []) = _; rw [u8_cell ha ha1, u8_cell h0 h1]; rfl) rfl rfl h
theorem st_slice1S {t e : TypeId} {y : Operand} {l : List UInt8} {zs : List Value} (hd : Nat.blt d n = true) (hy : evalF f y = .string (S l)) (hu : P.underlying t = some (.slice e)) (hs : P.cellsOf e = 1) (hz : zeroC P e = some zs) (hzl : zs.length = 1)
    (h : ∀ g, ExL P n ops rest Q (upd f d (.slice (some ⟨g, 0, none⟩) 1 1)) (RowT (.slice (some ⟨g, 0, none⟩) 1 1) e [(⟨l⟩ : Txt)] :: L)) : ExL P n ops (⟨some d, .buildSlice t 1 #[(0, y)], ty, pos, af, none⟩ :: rest) Q f L :=
  st_slice1V (⟨l⟩ : Txt) hd hy rfl hu hs hz hzl rfl h
variable {kd : Nat → Nat} {Lb : List Assn} {Z : (Nat → Value) → List Assn → Prop} {i : Nat} {l : List (Nat × Oper)}
theorem mx_slice2B {t e : TypeId} {x y : Operand} {a b : Int} {zs : List Value} (hk : kd i = 1) (hx : evalF f x = .int .u8 a) (hy : evalF f y = .int .u8 b) (hu : P.underlying t = some (.slice e)) (hs : P.cellsOf e = 1) (hz : zeroC P e = some zs) (hzl : zs.length = 1) (ha : 0 ≤ a) (ha1 : a ≤ 255) (h0 : 0 ≤ b) (h1 : b ≤ 255)
    (h : ∀ g, Mix P n ops kd Lb Z l (upd f d (.slice (some ⟨g, 0, none⟩) 2 2)) (RowT (.slice (some ⟨g, 0, none⟩) 2 2) e [UInt8.ofNat a.toNat, UInt8.ofNat b.toNat] :: L)) : Mix P n ops kd Lb Z ((i, ⟨some d, .buildSlice t 2 #[(0, x), (1, y)], ty, pos, af, none⟩) :: l) f L := by
  have hc : cellsOf [UInt8.ofNat a.toNat, UInt8.ofNat b.toNat] = [Value.int .u8 a, Value.int .u8 b] := by show Rep.cells _ ++ (Rep.cells _ ++ []) = _; rw [u8_cell ha ha1, u8_cell h0 h1]; rfl
  refine mx_new (obj := .cells [Value.int .u8 a, Value.int .u8 b].toArray e) (mk := fun g => .slice (some ⟨g, 0, none⟩) 2 2) (fun g => RowT (.slice (some ⟨g, 0, none⟩) 2 2) e [UInt8.ofNat a.toNat, UInt8.ofNat b.toNat]) hk rfl rfl (fun w => ?_) (fun g => ?_) h
  · have hrun := run_buildSlice (P := P) (w := w) (f := f) (parts := [(0, x), (1, y)]) (ps := [(0, [.int .u8 a]), (1, [.int .u8 b])]) (sz := 1) hu hs rfl (show Nat.blt 0 2 = true by rfl) rfl hz hzl ⟨rfl, by rw [hx]; rfl, rfl, by rw [hy]; rfl, trivial⟩ (lay_two hzl)
    simp only [execOp, Sem.run_bind, hrun, Result.andThen_ok, Sem.run_pure]
  · refine ⟨cellsOf_len _, .inr ⟨g, 2, _, rfl, rfl, Nat.le_refl _, by unfold maxLen; omega, by rfl, by rw [hc]; rfl⟩⟩
theorem mx_slice1S {t e : TypeId} {y : Operand} {s : List UInt8} {zs : List Value} (hk : kd i = 1) (hy : evalF f y = .string (S s)) (hu : P.underlying t = some (.slice e)) (hs : P.cellsOf e = 1) (hz : zeroC P e = some zs) (hzl : zs.length = 1)
    (h : ∀ g, Mix P n ops kd Lb Z l (upd f d (.slice (some ⟨g, 0, none⟩) 1 1)) (RowT (.slice (some ⟨g, 0, none⟩) 1 1) e [(⟨s⟩ : Txt)] :: L)) : Mix P n ops kd Lb Z ((i, ⟨some d, .buildSlice t 1 #[(0, y)], ty, pos, af, none⟩) :: l) f L :=
  mx_slice1V (⟨s⟩ : Txt) hk hy rfl hu hs hz hzl rfl h
end
theorem Sub.fr (is : List Nat) {A C C' : List Assn} (e : fronts is C = C') (h : Sub A C') : Sub A C := by
  subst e; exact Sub.trans h (fronts_sub is C)
/-- A deferred call, behind a return: its contract. -/
def FnD (P : Program) (k : FuncId) (args : Array Value) (L : List Assn) (R : Value → List Assn → Prop) : Prop :=
  ∀ F w0 w, Rest w0 w → Sats w L F → CallsD P k args .returning w fun e u w' => u = .returning ∧ ∃ v L', e = .returned v ∧ Rest w0 w' ∧ Sats w' L' F ∧ R v L'
theorem FnD.of_ex {P : Program} {k : FuncId} {fn : Func} {c : Code} {args : Array Value} {L : List Assn} {R : Value → List Assn → Prop} {n : Nat} (hf : P.funcs[k]? = some fn) (hb : fn.body = some c) (hnn : fn.ntmps = n) (hn : Nat.ble args.size n = true)
    (h : Ex P n c (fin P fn R) (frame0 args) L) : FnD P k args L R := by
  subst hnn
  have hn := Nat.le_of_ble_eq_true hn
  intro F w0 w r s
  refine callsD_of_wp hf hb ?_
  have ag : Agree [] fn.ntmps { tmps := args ++ Array.replicate (fn.ntmps - args.size) undef, defers := [] } (frame0 args) := by
    refine ⟨rfl, by simp; omega, fun t => ?_⟩
    simp only [frame0, Array.getD_eq_getD_getElem?, List.getD_eq_getElem?_getD, Array.getElem?_toList]
    by_cases ht : t < args.size
    · rw [Array.getElem?_append_left ht]
    · rw [Array.getElem?_append_right (by omega), Array.getElem?_replicate, Array.getElem?_eq_none (show args.size ≤ t by omega)]
      split <;> rfl
  refine wp_mono (h [] F w0 (frame0 args) (fun _ => true) _ w ⟨r, ag, s, fun t ht => by cases ht⟩ (fun _ _ => rfl)) ?_
  rintro e a w ⟨f, L', ⟨r, ag, s, _⟩, q⟩
  cases e with
  | normal => obtain ⟨v, L2, hv, hs, hR⟩ := q; exact ⟨ag.1, v, hv F w a.tmps ag.2.2 s, v, L2, rfl, r, hs w F s, hR⟩
  | ret => obtain ⟨v, L2, hv, hs, hR⟩ := q; exact ⟨ag.1, v, hv F w a.tmps ag.2.2 s, v, L2, rfl, r, hs w F s, hR⟩
  | _ => exact q.elim
theorem FnD.sub {P : Program} {k : FuncId} {args : Array Value} {L L' : List Assn} {R : Value → List Assn → Prop} (h : FnD P k args L' R) (hs : Sub L' L) : FnD P k args L R := fun F w0 w r s => h F w0 w r (hs w F s)
theorem FnD.mono {P : Program} {k : FuncId} {args : Array Value} {L : List Assn} {R R' : Value → List Assn → Prop} (h : FnD P k args L R) (hr : ∀ v L', R v L' → R' v L') : FnD P k args L R' := fun F w0 w r s =>
  (h F w0 w r s).mono fun e u w' ⟨hu, v, L', he, hr', hs, hR⟩ => ⟨hu, v, L', he, hr', hs, hr v L' hR⟩
/-- Behind the defer: what is so at the end, ahead of the deferred call. -/
def finD (P : Program) (fn : Func) (R : Value → List Assn → Prop) (kf : FuncId) (us : List Value) : Post
  | .normal, f, L | .ret, f, L => FnD P kf us.toArray L fun _ L1 => ∃ v L', ResV P fn f L1 v ∧ Sub L' L1 ∧ R v L'
  | _, _, _ => False
theorem finD_n {P : Program} {fn : Func} {R : Value → List Assn → Prop} {kf : FuncId} {us : List Value} {f : Nat → Value} {L : List Assn} (h : FnD P kf us.toArray L fun _ L1 => ∃ v L', ResV P fn f L1 v ∧ Sub L' L1 ∧ R v L') : finD P fn R kf us .normal f L := h
theorem finD_ret {P : Program} {fn : Func} {R : Value → List Assn → Prop} {kf : FuncId} {us : List Value} {f : Nat → Value} {L : List Assn} (h : FnD P kf us.toArray L fun _ L1 => ∃ v L', ResV P fn f L1 v ∧ Sub L' L1 ∧ R v L') : finD P fn R kf us .ret f L := h
def seqs : List Code → Code → Code
  | [], y => y
  | x :: l, y => .seq x (seqs l y)
/-- The codes one behind the other, with what is so behind them. -/
def ExS (P : Program) (n : Nat) (Z : Post) : List Code → (Nat → Value) → List Assn → Prop
  | [], f, L => Z .normal f L
  | x :: l, f, L => Ex P n x (fun e f L => match e with | .normal => ExS P n Z l f L | e => Z e f L) f L
def thnS (P : Program) (n : Nat) (Z : Post) (l : List Code) : Post
  | .normal, f, L => ExS P n Z l f L
  | e, f, L => Z e f L
section
variable {P : Program} {n : Nat} {Z : Post} {x : Code} {l : List Code} {f : Nat → Value} {L : List Assn}
theorem ExS.cons (h : Ex P n x (thnS P n Z l) f L) : ExS P n Z (x :: l) f L := h.mono fun e f L q => by cases e <;> exact q
theorem ExS.nil (h : Z .normal f L) : ExS P n Z [] f L := h
theorem thnS_n (h : ExS P n Z l f L) : thnS P n Z l .normal f L := h
theorem thnS_ret (h : Z .ret f L) : thnS P n Z l .ret f L := h
end
theorem exS_wp {P : Program} {n : Nat} {Z : Post} {y : Code} {Q : Exit → Act → World → Prop} {D : List Deferred} {F : Frag} {w0 : World} {f0 : Nat → Value}
    (hy : ∀ f L a w, Here D n F w0 f0 (fun _ => true) a w f L → Z .normal f L → y.wp P Q a w) (hz : ∀ e f L a w, e ≠ .normal → Here D n F w0 f0 (fun _ => true) a w f L → Z e f L → Q e a w) :
    ∀ (l : List Code) (f : Nat → Value) (L : List Assn) (a : Act) (w : World), Here D n F w0 f0 (fun _ => true) a w f L → ExS P n Z l f L → (seqs l y).wp P Q a w
  | [], f, L, a, w, H, h => hy f L a w H h
  | x :: l, f, L, a, w, H, h => wp_seq (wp_mono (h D F w0 f0 (fun _ => true) a w H (fun _ _ => rfl)) fun e a w ⟨f, L, H, q⟩ => by
    cases e with
    | normal => exact exS_wp hy hz l f L a w H q
    | _ => exact hz _ f L a w (by intro h; cases h) H q)
/-- What is so ahead of the defer statement, or at a return ahead of it. -/
def dz (P : Program) (n : Nat) (fn : Func) (R : Value → List Assn → Prop) (t : Nat) (kf : FuncId) (caps : List Operand) (B : Code) : Post
  | .normal, f, L => Ex P n B (finD P fn R kf (caps.map (evalF f))) (upd f t (.func (.func kf) #[] (caps.map (evalF f)).toArray)) L
  | .ret, f, L => fin P fn R .ret f L
  | _, _, _ => False
theorem dz_n {P : Program} {n : Nat} {fn : Func} {R : Value → List Assn → Prop} {t : Nat} {kf : FuncId} {caps : List Operand} {B : Code} {f : Nat → Value} {L : List Assn} {us : List Value} (hu : caps.map (evalF f) = us) (h : Ex P n B (finD P fn R kf us) (upd f t (.func (.func kf) #[] us.toArray)) L) : dz P n fn R t kf caps B .normal f L := by subst hu; exact h
theorem dz_ret {P : Program} {n : Nat} {fn : Func} {R : Value → List Assn → Prop} {t : Nat} {kf : FuncId} {caps : List Operand} {B : Code} {f : Nat → Value} {L : List Assn} (h : fin P fn R .ret f L) : dz P n fn R t kf caps B .ret f L := h
theorem Fn.of_exD {P : Program} {k : FuncId} {fn : Func} {args : Array Value} {L : List Assn} {R : Value → List Assn → Prop} {n : Nat} {id t : Nat} {kf : FuncId} {caps : List Operand} {ty1 ty2 : TypeId} {pos1 pos2 : String} {af1 af2 : Array Edge} {ts : Array TypeId} {B : Code} (As : List Code) (hf : P.funcs[k]? = some fn)
    (hb : fn.body = some (seqs As (.seq (.region id #[⟨some t, .makeFunc (.func kf) #[] caps.toArray, ty1, pos1, af1, none⟩, ⟨none, .defer ⟨.value (.tmp t), #[], ts⟩, ty2, pos2, af2, none⟩] false) B))) (hnn : fn.ntmps = n) (hn : Nat.ble args.size n = true) (ht : Nat.blt t n = true)
    (hrun : ∀ (xs : Array Value) (w : World), (callFunc kf xs).run P w = .ok (.enter kf xs) w)
    (h : ExS P n (dz P n fn R t kf caps B) As (frame0 args) L) : Fn P k args L R := by
  subst hnn
  have hn := Nat.le_of_ble_eq_true hn
  intro F w0 w r s
  refine calls_of_wp_defers hf hb ?_
  have ag : Agree [] fn.ntmps { tmps := args ++ Array.replicate (fn.ntmps - args.size) undef, defers := [] } (frame0 args) := by
    refine ⟨rfl, by simp; omega, fun t => ?_⟩
    simp only [frame0, Array.getD_eq_getD_getElem?, List.getD_eq_getElem?_getD, Array.getElem?_toList]
    by_cases ht : t < args.size
    · rw [Array.getElem?_append_left ht]
    · rw [Array.getElem?_append_right (by omega), Array.getElem?_replicate, Array.getElem?_eq_none (show args.size ≤ t by omega)]
      split <;> rfl
  refine exS_wp (D := []) (F := F) (w0 := w0) (f0 := frame0 args) ?_ ?_ As _ _ _ _ ⟨r, ag, s, fun t ht => by cases ht⟩ h
  · intro f L a w H q
    refine wp_seq (wp_region_list ?_)
    have he := H.2.1.eval
    refine wpList_plain rfl fun K hK => ?_
    unfold Oper.wp
    have h1 : (execOp a.eval ⟨some t, .makeFunc (.func kf) #[] caps.toArray, ty1, pos1, af1, none⟩).run P w = .ok (.value (.func (.func kf) #[] (caps.map (evalF f)).toArray)) w := by
      rw [he]; simp [execOp, Instr.makeFunc]
    rw [h1]
    refine hK _ _ ?_
    have H2 := Here.puto (w' := w) H (Rest.refl w) H.2.2.1 (d := some t) ht (fun _ _ => rfl) (.func (.func kf) #[] (caps.map (evalF f)).toArray)
    refine wpList_plain rfl fun K hK => ?_
    unfold Oper.wp
    have h2 : (execOp (a.put (some t) (.func (.func kf) #[] (caps.map (evalF f)).toArray)).eval ⟨none, .defer ⟨.value (.tmp t), #[], ts⟩, ty2, pos2, af2, none⟩).run P w = .ok (.defer ⟨.fn (.func kf) (caps.map (evalF f)).toArray, #[]⟩) w := by
      rw [H2.2.1.eval]
      have e : evalF (updo f (some t) (.func (.func kf) #[] (caps.map (evalF f)).toArray)) (.tmp t) = .func (.func kf) #[] (caps.map (evalF f)).toArray := upd_self _ _ _
      simp [execOp, resolve, e, Deferred.ofValue]
    rw [h2]
    refine hK _ _ (wpList_nil ?_)
    have ag2 : Agree [⟨.fn (.func kf) (caps.map (evalF f)).toArray, #[]⟩] fn.ntmps ({ a.put (some t) (.func (.func kf) #[] (caps.map (evalF f)).toArray) with defers := ⟨.fn (.func kf) (caps.map (evalF f)).toArray, #[]⟩ :: (a.put (some t) (.func (.func kf) #[] (caps.map (evalF f)).toArray)).defers }.put none undef) (upd f t (.func (.func kf) #[] (caps.map (evalF f)).toArray)) := by
      refine ⟨?_, H2.2.1.2.1, H2.2.1.2.2⟩
      have := H2.2.1.1
      simp only [Act.put] at this ⊢
      rw [this]
    refine wp_mono (q _ F w0 (frame0 args) (fun _ => true) _ w ⟨H2.1, ag2, H2.2.2.1, fun t ht => by cases ht⟩ (fun _ _ => rfl)) ?_
    have fin2 : ∀ (a2 : Act) (w2 : World) (f2 : Nat → Value) (L2 : List Assn), Here [⟨.fn (.func kf) (caps.map (evalF f)).toArray, #[]⟩] fn.ntmps F w0 (frame0 args) (fun _ => true) a2 w2 f2 L2 →
        (FnD P kf (caps.map (evalF f)).toArray L2 fun _ L1 => ∃ v L', ResV P fn f2 L1 v ∧ Sub L' L1 ∧ R v L') → Leaves P fn a2.tmps (fun e w' => ∃ v L', e = .returned v ∧ Rest w0 w' ∧ Sats w' L' F ∧ R v L') a2.defers .returning w2 := by
      intro a2 w2 f2 L2 H3 hD
      rw [H3.2.1.1]
      refine leaves_cons (f := kf) (args := (caps.map (evalF f)).toArray) (by intro h; cases h) (by simp [invoke, hrun]) ?_
      refine (hD F w0 w2 H3.1 H3.2.2.1).mono ?_
      rintro e u' w' ⟨rfl, v, L1, rfl, hr, hs, v2, L3, hv, hsub, hR⟩
      exact ⟨v2, hv F w' a2.tmps H3.2.1.2.2 hs, v2, L3, rfl, hr, hsub w' F hs, hR⟩
    rintro e a2 w2 ⟨f2, L2, H3, q2⟩
    cases e with
    | normal => exact fin2 a2 w2 f2 L2 H3 q2
    | ret => exact fin2 a2 w2 f2 L2 H3 q2
    | _ => exact q2.elim
  · intro e f L a w hne H q
    cases e with
    | normal => exact absurd rfl hne
    | ret =>
      obtain ⟨v, L2, hv, hs, hR⟩ := q
      show Leaves P fn a.tmps _ a.defers .returning w
      rw [H.2.1.1]
      exact ⟨v, hv F w a.tmps H.2.1.2.2 H.2.2.1, v, L2, rfl, H.1, hs w F H.2.2.1, hR⟩
    | _ => exact q.elim
end Go.Proofs.Ytkcpgdkchglhhaa
