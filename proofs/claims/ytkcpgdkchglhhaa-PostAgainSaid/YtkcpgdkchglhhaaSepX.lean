/- More steps: new variables, literals, what is returned. No condition. -/
import Derived.Test.YtkcpgdkchglhhaaSepW
import Derived.Test.YtkcpgdkchglhhaaSepE
namespace Go.Proofs.Ytkcpgdkchglhhaa
open Go.RowKit
set_option linter.unusedSimpArgs false
set_option linter.unusedVariables false
theorem cells_one {v : Value} (h : v.oneCell' = true) : v.cells = #[v] := by cases v <;> first | rfl | (simp [Value.oneCell'] at h)
section
variable {P : Program} {n : Nat} {ops : Array Oper} {Q : Post} {f : Nat → Value} {L : List Assn} {rest : List Oper} {d : Nat} {ty : TypeId} {pos : String} {af : Array Edge} {gd : Option (Nat × Bool)}
theorem vl_loadW (i : Nat) {t bt : TypeId} {x : Operand} {g : Nat} {cs : List Value} (hx : evalF f x = .pointer (some ⟨g, 0, none⟩)) (hi : L[i]? = some (Blk g bt cs)) (hA : aggB P t = some true) (hm : P.cellsOf t = cs.length) (hp : Nat.blt 0 cs.length = true) :
    Val P ⟨some d, .load t x, ty, pos, af, gd⟩ f L (.agg cs.toArray) :=
  vl_loadA i hx hi hA hm hp (by simp) (by simp)
theorem st_new {e : TypeId} {zs : List Value} (hd : Nat.blt d n = true) (h1 : (zeroC P e).isSome = true) (hz : (zeroC P e).getD [] = zs) (h : ∀ g, ExL P n ops rest Q (upd f d (.pointer (some ⟨g, 0, none⟩))) (Blk g e zs :: L)) :
    ExL P n ops (⟨some d, .alloc e, ty, pos, af, none⟩ :: rest) Q f L := by
  refine st_alloc hd ?_ h
  cases hc : zeroC P e with
  | none => rw [hc] at h1; cases h1
  | some z => rw [hc] at hz; simp at hz; rw [hz]
theorem st_boxA {e : TypeId} {x : Operand} {cs : List Value} (hd : Nat.blt d n = true) (hx : evalF f x = .agg cs.toArray) (h : ∀ g, ExL P n ops rest Q (upd f d (.pointer (some ⟨g, 0, none⟩))) (Blk g e cs :: L)) :
    ExL P n ops (⟨some d, .box e x, ty, pos, af, none⟩ :: rest) Q f L := st_box hd hx (by simp [Value.cells]) h
theorem st_box1 {e : TypeId} {x : Operand} {v : Value} (hd : Nat.blt d n = true) (hx : evalF f x = v) (h1 : v.oneCell' = true) (h : ∀ g, ExL P n ops rest Q (upd f d (.pointer (some ⟨g, 0, none⟩))) (Blk g e [v] :: L)) :
    ExL P n ops (⟨some d, .box e x, ty, pos, af, none⟩ :: rest) Q f L := st_box hd hx (by rw [cells_one h1]) h
/-- A literal of a struct: the parts, laid over the zero value. -/
def Evs (f : Nat → Value) : List (Nat × Operand) → List (Nat × List Value) → Prop
  | [], [] => True
  | (i, x) :: l, (j, vs) :: ps => i = j ∧ (evalF f x).cells.toList = vs ∧ Evs f l ps
  | _, _ => False
theorem evs_nil : Evs f [] [] := trivial
theorem evs_one {i : Nat} {x : Operand} {v : Value} {l : List (Nat × Operand)} {ps : List (Nat × List Value)} (h : evalF f x = v) (h1 : v.oneCell' = true) (t : Evs f l ps) : Evs f ((i, x) :: l) ((i, [v]) :: ps) := ⟨rfl, by rw [h, cells_one h1], t⟩
theorem evs_agg {i : Nat} {x : Operand} {cs : List Value} {l : List (Nat × Operand)} {ps : List (Nat × List Value)} (h : evalF f x = .agg cs.toArray) (t : Evs f l ps) : Evs f ((i, x) :: l) ((i, cs) :: ps) := ⟨rfl, by rw [h]; simp [Value.cells], t⟩
def over (cs : List Value) (o : Nat) (vs : List Value) : List Value := cs.take o ++ vs ++ cs.drop (o + vs.length)
def lay (off : Nat → Option (Nat × Nat)) : List Value → List (Nat × List Value) → Option (List Value)
  | cs, [] => some cs
  | cs, (i, vs) :: ps => match off i with
    | some (o, sz) => match Nat.beq vs.length sz && Nat.ble (o + sz) cs.length with
      | true => lay off (over cs o vs) ps
      | false => none
    | none => none
theorem foldl_over : ∀ (vs : List Value) (cs : Array Value) (o k : Nat), o + k + vs.length ≤ cs.size → ((vs.zipIdx k).foldl (fun (cs : Array Value) (x : Value × Nat) => cs.setIfInBounds (o + x.2) x.1) cs).toList = over cs.toList (o + k) vs
  | [], cs, o, k, h => by simp [over]
  | v :: vs, cs, o, k, h => by
    simp only [List.zipIdx_cons, List.foldl_cons]
    rw [foldl_over vs _ o (k + 1) (by simp at h ⊢; omega)]
    simp only [over, Array.toList_setIfInBounds]
    rw [show o + (k + 1) = o + k + 1 by omega]
    exact splice_set cs.toList (o + k) v vs (by simp at h ⊢; omega)
theorem fill_lay (place : Nat → Option (Nat × Nat)) : ∀ (ps : List (Nat × Value)) (cs : Array Value) (vs : List Value), lay place cs.toList (ps.map fun p => (p.1, p.2.cells.toList)) = some vs → Instr.fill place cs ps = some vs.toArray
  | [], cs, vs, h => by simp [lay] at h; subst h; simp [Instr.fill]
  | (i, v) :: ps, cs, vs, h => by
    simp only [List.map_cons, lay] at h
    simp only [Instr.fill]
    cases hp : place i with
    | none => rw [hp] at h; cases h
    | some os =>
      obtain ⟨o, sz⟩ := os
      rw [hp] at h
      simp only at h
      split at h
      · rename_i hb
        simp only [Bool.and_eq_true] at hb
        have h1 := Nat.eq_of_beq_eq_true hb.1
        have h2 := Nat.le_of_ble_eq_true hb.2
        simp at h1 h2
        simp only
        rw [if_neg (by simp; omega)]
        refine fill_lay place ps _ vs ?_
        rw [← h]
        congr 1
        rw [← Array.foldl_toList, Array.toList_zipIdx]
        have := foldl_over v.cells.toList cs o 0 (by simp; omega)
        simpa using this
      · cases h
def offS (P : Program) (t : TypeId) (i : Nat) : Option (Nat × Nat) := match P.underlying t with
  | some (.struct fs) => (fs[i]?).map fun fd => (fd.offset, P.cellsOf fd.type)
  | some (.array _ e) => some (i * P.cellsOf e, P.cellsOf e)
  | _ => none
theorem evs_map {f : Nat → Value} : ∀ {l : List (Nat × Operand)} {ps : List (Nat × List Value)}, Evs f l ps → (l.map fun p => (p.1, evalF f p.2)).map (fun p => (p.1, p.2.cells.toList)) = ps
  | [], [], _ => rfl
  | (i, x) :: l, (j, vs) :: ps, ⟨h1, h2, h3⟩ => by
    simp only [List.map_cons]
    rw [evs_map h3, h1, h2]
theorem mapM_run {α β : Type} {w : World} (g : α → Sem β) (k : α → β) : ∀ (l : List α), (∀ x ∈ l, (g x).run P w = .ok (k x) w) → (l.mapM g).run P w = .ok (l.map k) w
  | [], _ => rfl
  | x :: l, h => by
    simp only [List.mapM_cons, Sem.run_bind, h x (List.mem_cons_self ..), Result.andThen_ok, mapM_run g k l (fun y hy => h y (List.mem_cons_of_mem _ hy)), Sem.run_pure, List.map_cons]
theorem vl_build {t : TypeId} {fs : Array Field} {parts : List (Nat × Operand)} {zs vs : List Value} {ps : List (Nat × List Value)} (hu : P.underlying t = some (.struct fs)) (hp : (fs.toList.all fun fd => Nat.blt 0 (P.cellsOf fd.type)) = true) (hz : zeroC P t = some zs)
    (he : Evs f parts ps) (hl : lay (offS P t) zs ps = some vs) : Val P ⟨some d, .build t parts.toArray, ty, pos, af, gd⟩ f L (.agg vs.toArray) := fun F w s => by
  obtain ⟨z, hr, hc⟩ := run_zeroValue w hz
  have hall : ∀ fd ∈ fs.toList, 0 < P.cellsOf fd.type := fun fd hfd => Nat.le_of_ble_eq_true (List.all_eq_true.1 hp fd hfd)
  have hm := mapM_run (P := P) (w := w) (fun fd : Field => (do pure (fd.offset, ← sizeOf fd.type) : Sem (Nat × Nat))) (fun fd => (fd.offset, P.cellsOf fd.type)) fs.toList (fun fd hfd => by
    have h1 := run_sizeOf' (P := P) w (t := fd.type) rfl (hall fd hfd)
    simp only [Sem.run_bind, h1, Result.andThen_ok, Sem.run_pure])
  have hfill := fill_lay (offS P t) (parts.map fun p => (p.1, evalF f p.2)) z.cells vs (by rw [hc, evs_map he]; simpa using hl)
  have hoff : (fun i => ((fs.toList.map fun fd => (fd.offset, P.cellsOf fd.type)).toArray)[i]?) = offS P t := by
    funext i
    unfold offS
    rw [hu]
    simp
  have hmm : (fs.mapM fun fd => (do pure (fd.offset, ← sizeOf fd.type) : Sem (Nat × Nat))).run P w = .ok (fs.toList.map fun fd => (fd.offset, P.cellsOf fd.type)).toArray w := by
    rw [Array.mapM_eq_mapM_toList, Sem.run_map, hm]
    rfl
  have hpl : (parts.toArray.map fun (p : Nat × Operand) => (p.1, evalF f p.2)).toList = parts.map fun p => (p.1, evalF f p.2) := by simp
  simp only [execOp, Instr.build, Sem.run_bind, hr, Result.andThen_ok, run_underlying hu, hmm, hpl, hoff, hfill, Sem.run_pure]
theorem vl_buildA {t e : TypeId} {m es : Nat} {parts : List (Nat × Operand)} {zs vs : List Value} {ps : List (Nat × List Value)} (hu : P.underlying t = some (.array m e)) (hs : P.cellsOf e = es) (hp : Nat.blt 0 es = true) (hz : zeroC P t = some zs)
    (he : Evs f parts ps) (hl : lay (offS P t) zs ps = some vs) : Val P ⟨some d, .build t parts.toArray, ty, pos, af, gd⟩ f L (.agg vs.toArray) := fun F w s => by
  obtain ⟨z, hr, hc⟩ := run_zeroValue w hz
  have hfill := fill_lay (offS P t) (parts.map fun p => (p.1, evalF f p.2)) z.cells vs (by rw [hc, evs_map he]; simpa using hl)
  have hoff : (fun i => some (i * es, es)) = offS P t := by
    funext i
    unfold offS
    rw [hu]
    simp [hs]
  have hpl : (parts.toArray.map fun (p : Nat × Operand) => (p.1, evalF f p.2)).toList = parts.map fun p => (p.1, evalF f p.2) := by simp
  simp only [execOp, Instr.build, Sem.run_bind, hr, Result.andThen_ok, run_underlying hu, run_sizeOf' w hs (Nat.le_of_ble_eq_true hp), hpl, hoff, hfill, Sem.run_pure]
theorem vl_idxStr {t : TypeId} {x y : Operand} {k : IntKind} {a : List UInt8} {j : Nat} (hx : evalF f x = .string (S a)) (hy : evalF f y = .int k (j : Int)) (hu : P.underlying t = some .string) (hj : j < a.length) :
    Val P ⟨some d, .index t x y, ty, pos, af, gd⟩ f L (.int .u8 (a[j]'hj).toNat) := fun F w s => by
  have hg : (S a)[j]? = some (a[j]'hj) := by
    show ((S a).data[j]?) = _
    simp [S, hj]
  simp [execOp, hx, hy, Instr.index, run_underlying hu, asIntOf, hg]
end
theorem vint {k : IntKind} {a b : Int} (h : a = b) : Value.int k a = Value.int k b := by rw [h]
theorem vbool {a b : Bool} (h : a = b) : Value.bool a = Value.bool b := by rw [h]
theorem lcons {α : Type} {a b : α} {l l' : List α} (h : a = b) (t : l = l') : a :: l = b :: l' := by rw [h, t]
/-- A list, laid open to its end by evaluation. -/
def seqL : List Value → Option (List Value)
  | [] => some []
  | a :: l => match seqL l with
    | some l' => some (a :: l')
    | none => none
theorem seqL_some : ∀ (l : List Value), seqL l = some l
  | [] => rfl
  | a :: l => by simp only [seqL, seqL_some l]
theorem seqL_eq {l l' : List Value} (h : seqL l = some l') : l = l' := by rw [seqL_some] at h; cases h; rfl
section
variable {P : Program} {n : Nat} {ops : Array Oper} {Q : Post} {f : Nat → Value} {L : List Assn} {rest : List Oper} {d : Nat} {ty : TypeId} {pos : String} {af : Array Edge} {gd : Option (Nat × Bool)}
theorem st_new_ {e : TypeId} {zs : List Value} (hd : Nat.blt d n = true) (hz : ((zeroC P e).bind seqL) = some zs) (h : ∀ g, ExL P n ops rest Q (upd f d (.pointer (some ⟨g, 0, none⟩))) (Blk g e zs :: L)) :
    ExL P n ops (⟨some d, .alloc e, ty, pos, af, none⟩ :: rest) Q f L := by
  refine st_alloc hd ?_ h
  cases hc : zeroC P e with
  | none => rw [hc] at hz; cases hz
  | some z => rw [hc] at hz; rw [← seqL_eq hz]
theorem st_store1_ (i : Nat) {t bt : TypeId} {x y : Operand} {g o : Nat} {cs cs' : List Value} {v : Value} {L' : List Assn} (hx : evalF f x = .pointer (some ⟨g, o, none⟩)) (hi : L[i]? = some (Blk g bt cs)) (hy : evalF f y = v) (h1 : v.oneCell' = true) (hm : P.cellsOf t = 1)
    (ho : Nat.blt o cs.length = true) (hc : seqL (cs.set o v) = some cs') (hL : L.set i (Blk g bt cs') = L') (h : ExL P n ops rest Q f L') : ExL P n ops (⟨none, .store t x y, ty, pos, af, none⟩ :: rest) Q f L :=
  st_store1 i hx hy h1 hi hm ho (by rw [seqL_eq hc, hL]) h
theorem st_storeA_ (i : Nat) {t bt : TypeId} {x y : Operand} {g o : Nat} {cs vs cs' : List Value} {L' : List Assn} (hx : evalF f x = .pointer (some ⟨g, o, none⟩)) (hi : L[i]? = some (Blk g bt cs)) (hy : evalF f y = .agg vs.toArray) (h1 : vs.all Value.oneCell' = true) (hm : P.cellsOf t = vs.length)
    (hp : Nat.blt 0 vs.length = true) (ho : Nat.ble (o + vs.length) cs.length = true) (hc : seqL (cs.take o ++ vs ++ cs.drop (o + vs.length)) = some cs') (hL : L.set i (Blk g bt cs') = L') (h : ExL P n ops rest Q f L') : ExL P n ops (⟨none, .store t x y, ty, pos, af, none⟩ :: rest) Q f L :=
  st_storeA i hx hy h1 hi hm hp ho (by rw [seqL_eq hc, hL]) h
/-- A whole variable is written. -/
theorem st_storeW_ (i : Nat) {t bt : TypeId} {x y : Operand} {g : Nat} {cs vs : List Value} {L' : List Assn} (hx : evalF f x = .pointer (some ⟨g, 0, none⟩)) (hi : L[i]? = some (Blk g bt cs)) (hy : evalF f y = .agg vs.toArray) (h1 : vs.all Value.oneCell' = true) (hm : P.cellsOf t = vs.length)
    (hp : Nat.blt 0 vs.length = true) (ho : Nat.beq vs.length cs.length = true) (hL : L.set i (Blk g bt vs) = L') (h : ExL P n ops rest Q f L') : ExL P n ops (⟨none, .store t x y, ty, pos, af, none⟩ :: rest) Q f L := by
  have ho := Nat.eq_of_beq_eq_true ho
  refine st_storeA i hx hy h1 hi hm hp (by simp; omega) ?_ h
  rw [← hL, List.take_zero, List.nil_append, List.drop_eq_nil_of_le (by omega), List.append_nil]
theorem vl_loadA_ (i : Nat) {t bt : TypeId} {x : Operand} {g o m : Nat} {cs vs : List Value} (hx : evalF f x = .pointer (some ⟨g, o, none⟩)) (hi : L[i]? = some (Blk g bt cs)) (hA : aggB P t = some true) (hm : P.cellsOf t = m) (hp : Nat.blt 0 m = true)
    (hl : Nat.ble (o + m) cs.length = true) (hv : seqL ((cs.drop o).take m) = some vs) : Val P ⟨some d, .load t x, ty, pos, af, gd⟩ f L (.agg vs.toArray) := vl_loadA i hx hi hA hm hp hl (seqL_eq hv)
theorem vl_loadSA_ {α : Type} [Rep α] {v : Value} {xs : List α} {t : TypeId} {x : Operand} {i sz o m : Nat} {us : List Value} (hx : evalF f x = elt v (i * sz + o)) (hA : aggB P t = some true) (hm : P.cellsOf t = m) (hp : Nat.blt 0 m = true) (hr : RdT L v xs) (hi : i < xs.length) (hsz : Rep.sz α = sz) (hle : Nat.ble (o + m) sz = true)
    (hv : seqL (((Rep.cells (xs[i]'hi)).drop o).take m) = some us) : Val P ⟨some d, .load t x, ty, pos, af, gd⟩ f L (.agg us.toArray) := vl_loadSA hx hA hm hp hr hi hsz hle (seqL_eq hv)
/-- A whole element. -/
theorem vl_loadSW {α : Type} [Rep α] {v : Value} {xs : List α} {t : TypeId} {x : Operand} {i sz : Nat} (hx : evalF f x = elt v (i * sz + 0)) (hA : aggB P t = some true) (hm : P.cellsOf t = sz) (hr : RdT L v xs) (hi : i < xs.length) (hsz : Rep.sz α = sz) :
    Val P ⟨some d, .load t x, ty, pos, af, gd⟩ f L (.agg (Rep.cells (xs[i]'hi)).toArray) := vl_loadSA hx hA hm (by
      have := Rep.pos (α := α); rw [hsz] at this; cases sz <;> first | omega | rfl) hr hi hsz (by simp) (by rw [List.drop_zero, List.take_of_length_le (by rw [Rep.len, hsz]; exact Nat.le_refl _)])
theorem vl_build_ {t : TypeId} {fs : Array Field} {parts : List (Nat × Operand)} {zs vs : List Value} {ps : List (Nat × List Value)} (hu : P.underlying t = some (.struct fs)) (hp : (fs.toList.all fun fd => Nat.blt 0 (P.cellsOf fd.type)) = true) (hz : zeroC P t = some zs)
    (he : Evs f parts ps) (hl : ((lay (offS P t) zs ps).bind seqL) = some vs) : Val P ⟨some d, .build t parts.toArray, ty, pos, af, gd⟩ f L (.agg vs.toArray) := vl_build hu hp hz he (by
  cases hc : lay (offS P t) zs ps with
  | none => rw [hc] at hl; cases hl
  | some z => rw [hc] at hl; rw [← seqL_eq hl])
theorem vl_buildA_ {t e : TypeId} {m es : Nat} {parts : List (Nat × Operand)} {zs vs : List Value} {ps : List (Nat × List Value)} (hu : P.underlying t = some (.array m e)) (hs : P.cellsOf e = es) (hp : Nat.blt 0 es = true) (hz : zeroC P t = some zs)
    (he : Evs f parts ps) (hl : ((lay (offS P t) zs ps).bind seqL) = some vs) : Val P ⟨some d, .build t parts.toArray, ty, pos, af, gd⟩ f L (.agg vs.toArray) := vl_buildA hu hs hp hz he (by
  cases hc : lay (offS P t) zs ps with
  | none => rw [hc] at hl; cases hl
  | some z => rw [hc] at hl; rw [← seqL_eq hl])
end
/-- What an operation does to memory: it reads at most, it makes a block, it acts. -/
def kdOf (ops : Array Oper) (i : Nat) : Nat := match ops[i]? with
  | some o => match o.op with
    | .alloc _ => 1
    | .box .. => 1
    | .buildSlice .. => 1
    | .store .. => 2
    | .mapUpdate .. => 2
    | .insert .. => 2
    | .makeSlice .. => 2
    | .makeMap .. => 2
    | .lookup .. => 2
    | .next .. => 2
    | .range .. => 2
    | .call c => match c.callee with
      | .builtin .len => 0
      | .builtin .cap => 0
      | .builtin .min => 0
      | .builtin .max => 0
      | _ => 2
    | _ => 0
  | none => 0
/-- From which operation on each waits for all ahead of it. -/
def tailOf (ops : Array Oper) : Nat → Nat
  | 0 => 0
  | m + 1 => match (List.range m).all fun k => edgeOn ops m k with
    | true => tailOf ops m
    | false => m + 1
theorem wrapB_i64 (b : UInt8) : IntKind.i64.wrap (b.toNat : Int) = b.toNat := wrap_i64 (by omega) (by have := b.toNat_lt; omega)
theorem wrapB_u8 (b : UInt8) : IntKind.u8.wrap (b.toNat : Int) = b.toNat := wrap_u8 (by omega) (by have := b.toNat_lt; omega)
theorem wrapB_u32 (b : UInt8) : IntKind.u32.wrap (b.toNat : Int) = b.toNat := wrap_u32 (by omega) (by have := b.toNat_lt; omega)
theorem wrapB_u64 (b : UInt8) : IntKind.u64.wrap (b.toNat : Int) = b.toNat := wrap_u64 (by omega) (by have := b.toNat_lt; omega)
section
variable {P : Program} {n : Nat} {ops : Array Oper} {Q : Post} {f : Nat → Value} {L : List Assn}
theorem Ex.mixA {id : Nat} (m : Nat) (Lb : List Assn) (hm : P.follows .mixedOrders = true) (hok : mixOk n ops (kdOf ops) m = true) (hf : Fac Lb L)
    (h : Mix P n ops (kdOf ops) Lb (fun f L => ExL P n ops (ops.toList.drop m) Q f L) (idx 0 (ops.toList.take m)) f L) : Ex P n (.region id ops true) Q f L :=
  Ex.mix m _ Lb hm hok hf h
variable {kd : Nat → Nat} {Lb : List Assn} {Z : (Nat → Value) → List Assn → Prop} {i : Nat} {l : List (Nat × Oper)} {d : Nat} {ty : TypeId} {pos : String} {af : Array Edge}
theorem mx_alloc {e : TypeId} {zs : List Value} (hk : kd i = 1) (hz : ((zeroC P e).bind seqL) = some zs) (h : ∀ g, Mix P n ops kd Lb Z l (upd f d (.pointer (some ⟨g, 0, none⟩))) (Blk g e zs :: L)) : Mix P n ops kd Lb Z ((i, ⟨some d, .alloc e, ty, pos, af, none⟩) :: l) f L := by
  have hz' : zeroC P e = some zs := by
    cases hc : zeroC P e with
    | none => rw [hc] at hz; cases hz
    | some z => rw [hc] at hz; rw [← seqL_eq hz]
  refine mx_new (obj := .cells zs.toArray e) (mk := fun g => .pointer (some ⟨g, 0, none⟩)) (fun g => Blk g e zs) hk rfl rfl (fun w => ?_) (fun g => ⟨(0, 0), fun o _ => by simp, rfl⟩) h
  obtain ⟨z, hr, hc⟩ := run_zeroValue w hz'
  simp [execOp, Instr.alloc, hr, run_newVar, hc]
theorem mx_box {e : TypeId} {x : Operand} {v : Value} {cs : List Value} (hk : kd i = 1) (hx : evalF f x = v) (hc : v.cells.toList = cs) (h : ∀ g, Mix P n ops kd Lb Z l (upd f d (.pointer (some ⟨g, 0, none⟩))) (Blk g e cs :: L)) : Mix P n ops kd Lb Z ((i, ⟨some d, .box e x, ty, pos, af, none⟩) :: l) f L := by
  refine mx_new (obj := .cells v.cells e) (mk := fun g => .pointer (some ⟨g, 0, none⟩)) (fun g => Blk g e cs) hk rfl rfl (fun w => ?_) (fun g => ⟨(0, 0), fun o _ => by simp, by rw [← hc]⟩) h
  simp [execOp, Instr.box, hx, run_newVar]
theorem mx_boxA {e : TypeId} {x : Operand} {cs : List Value} (hk : kd i = 1) (hx : evalF f x = .agg cs.toArray) (h : ∀ g, Mix P n ops kd Lb Z l (upd f d (.pointer (some ⟨g, 0, none⟩))) (Blk g e cs :: L)) : Mix P n ops kd Lb Z ((i, ⟨some d, .box e x, ty, pos, af, none⟩) :: l) f L :=
  mx_box hk hx (by simp [Value.cells]) h
theorem mx_slice0 {t e : TypeId} {sz : Nat} (hk : kd i = 1) (ht : P.underlying t = some (.slice e)) (hs : P.cellsOf e = sz) (hp : Nat.blt 0 sz = true) (h : ∀ g, Mix P n ops kd Lb Z l (upd f d (.slice (some ⟨g, 0, none⟩) 0 0)) L) : Mix P n ops kd Lb Z ((i, ⟨some d, .buildSlice t 0 #[], ty, pos, af, none⟩) :: l) f L := by
  refine mx_new (obj := .cells #[] e) (mk := fun g => .slice (some ⟨g, 0, none⟩) 0 0) (fun g => Blk g e []) hk rfl rfl (fun w => ?_) (fun g => ⟨(0, 0), fun o _ => by simp, rfl⟩) (fun g => Mix.sub (Sub.drop _ (Sub.refl L)) (h g))
  simp [execOp, Instr.buildSlice, run_underlying ht, run_sizeOf' w hs (Nat.le_of_ble_eq_true hp), Instr.fill, newRow, Array.range_zero']
end
section
variable {P : Program} {n : Nat} {ops : Array Oper} {Q : Post} {f : Nat → Value} {L : List Assn} {rest : List Oper} {d : Nat} {ty : TypeId} {pos : String} {af : Array Edge} {gd : Option (Nat × Bool)}
/-- A remainder of which it is known what it is. -/
theorem vl_rem0e {k : IntKind} {xt yt : TypeId} {x y : Operand} {a b r : Int} (hx : evalF f x = .int k a) (hy : evalF f y = .int k b) (he : a % b = r) (ha : 0 ≤ a) (hb : 0 < b) :
    Val P ⟨some d, .binOp .rem xt x y yt, ty, pos, af, gd⟩ f L (.int k r) := by rw [← he]; exact vl_rem0 hx hy ha hb
theorem vl_addu8 {xt yt : TypeId} {x y : Operand} {a b : Int} (hx : evalF f x = .int .u8 a) (hy : evalF f y = .int .u8 b) (h1 : 0 ≤ a + b) (h2 : a + b ≤ 255) :
    Val P ⟨some d, .binOp .add xt x y yt, ty, pos, af, gd⟩ f L (.int .u8 (a + b)) := by
  have := vl_addw (P := P) (d := d) (ty := ty) (pos := pos) (af := af) (gd := gd) (xt := xt) (yt := yt) (L := L) hx hy
  rwa [wrap_u8 h1 h2] at this
theorem vl_lss_t {xt yt : TypeId} {x y : Operand} {k : IntKind} {a b : Int} (hx : evalF f x = .int k a) (hy : evalF f y = .int k b) (hp : a < b) : Val P ⟨some d, .binOp .lss xt x y yt, ty, pos, af, gd⟩ f L (.bool true) := by
  have := vl_lss (P := P) (d := d) (ty := ty) (pos := pos) (af := af) (gd := gd) (xt := xt) (yt := yt) (L := L) hx hy
  rwa [decide_eq_true hp] at this
theorem vl_lss_f {xt yt : TypeId} {x y : Operand} {k : IntKind} {a b : Int} (hx : evalF f x = .int k a) (hy : evalF f y = .int k b) (hp : ¬ (a < b)) : Val P ⟨some d, .binOp .lss xt x y yt, ty, pos, af, gd⟩ f L (.bool false) := by
  have := vl_lss (P := P) (d := d) (ty := ty) (pos := pos) (af := af) (gd := gd) (xt := xt) (yt := yt) (L := L) hx hy
  rwa [decide_eq_false hp] at this
theorem vl_leq_t {xt yt : TypeId} {x y : Operand} {k : IntKind} {a b : Int} (hx : evalF f x = .int k a) (hy : evalF f y = .int k b) (hp : a ≤ b) : Val P ⟨some d, .binOp .leq xt x y yt, ty, pos, af, gd⟩ f L (.bool true) := by
  have := vl_leq (P := P) (d := d) (ty := ty) (pos := pos) (af := af) (gd := gd) (xt := xt) (yt := yt) (L := L) hx hy
  rwa [decide_eq_true hp] at this
theorem vl_leq_f {xt yt : TypeId} {x y : Operand} {k : IntKind} {a b : Int} (hx : evalF f x = .int k a) (hy : evalF f y = .int k b) (hp : ¬ (a ≤ b)) : Val P ⟨some d, .binOp .leq xt x y yt, ty, pos, af, gd⟩ f L (.bool false) := by
  have := vl_leq (P := P) (d := d) (ty := ty) (pos := pos) (af := af) (gd := gd) (xt := xt) (yt := yt) (L := L) hx hy
  rwa [decide_eq_false hp] at this
theorem vl_gtr_t {xt yt : TypeId} {x y : Operand} {k : IntKind} {a b : Int} (hx : evalF f x = .int k a) (hy : evalF f y = .int k b) (hp : b < a) : Val P ⟨some d, .binOp .gtr xt x y yt, ty, pos, af, gd⟩ f L (.bool true) := by
  have := vl_gtr (P := P) (d := d) (ty := ty) (pos := pos) (af := af) (gd := gd) (xt := xt) (yt := yt) (L := L) hx hy
  rwa [decide_eq_true hp] at this
theorem vl_gtr_f {xt yt : TypeId} {x y : Operand} {k : IntKind} {a b : Int} (hx : evalF f x = .int k a) (hy : evalF f y = .int k b) (hp : ¬ (b < a)) : Val P ⟨some d, .binOp .gtr xt x y yt, ty, pos, af, gd⟩ f L (.bool false) := by
  have := vl_gtr (P := P) (d := d) (ty := ty) (pos := pos) (af := af) (gd := gd) (xt := xt) (yt := yt) (L := L) hx hy
  rwa [decide_eq_false hp] at this
theorem vl_geq_t {xt yt : TypeId} {x y : Operand} {k : IntKind} {a b : Int} (hx : evalF f x = .int k a) (hy : evalF f y = .int k b) (hp : b ≤ a) : Val P ⟨some d, .binOp .geq xt x y yt, ty, pos, af, gd⟩ f L (.bool true) := by
  have := vl_geq (P := P) (d := d) (ty := ty) (pos := pos) (af := af) (gd := gd) (xt := xt) (yt := yt) (L := L) hx hy
  rwa [decide_eq_true hp] at this
theorem vl_geq_f {xt yt : TypeId} {x y : Operand} {k : IntKind} {a b : Int} (hx : evalF f x = .int k a) (hy : evalF f y = .int k b) (hp : ¬ (b ≤ a)) : Val P ⟨some d, .binOp .geq xt x y yt, ty, pos, af, gd⟩ f L (.bool false) := by
  have := vl_geq (P := P) (d := d) (ty := ty) (pos := pos) (af := af) (gd := gd) (xt := xt) (yt := yt) (L := L) hx hy
  rwa [decide_eq_false hp] at this
theorem vl_eql_t {xt yt : TypeId} {x y : Operand} {k : IntKind} {a b : Int} (hx : evalF f x = .int k a) (hy : evalF f y = .int k b) (hp : a = b) : Val P ⟨some d, .binOp .eql xt x y yt, ty, pos, af, gd⟩ f L (.bool true) := by
  have := vl_eql (P := P) (d := d) (ty := ty) (pos := pos) (af := af) (gd := gd) (xt := xt) (yt := yt) (L := L) hx hy
  rwa [decide_eq_true hp] at this
theorem vl_eql_f {xt yt : TypeId} {x y : Operand} {k : IntKind} {a b : Int} (hx : evalF f x = .int k a) (hy : evalF f y = .int k b) (hp : ¬ (a = b)) : Val P ⟨some d, .binOp .eql xt x y yt, ty, pos, af, gd⟩ f L (.bool false) := by
  have := vl_eql (P := P) (d := d) (ty := ty) (pos := pos) (af := af) (gd := gd) (xt := xt) (yt := yt) (L := L) hx hy
  rwa [decide_eq_false hp] at this
theorem vl_neq_t {xt yt : TypeId} {x y : Operand} {k : IntKind} {a b : Int} (hx : evalF f x = .int k a) (hy : evalF f y = .int k b) (hp : a ≠ b) : Val P ⟨some d, .binOp .neq xt x y yt, ty, pos, af, gd⟩ f L (.bool true) := by
  have := vl_neq (P := P) (d := d) (ty := ty) (pos := pos) (af := af) (gd := gd) (xt := xt) (yt := yt) (L := L) hx hy
  rwa [decide_eq_true hp] at this
theorem vl_neq_f {xt yt : TypeId} {x y : Operand} {k : IntKind} {a b : Int} (hx : evalF f x = .int k a) (hy : evalF f y = .int k b) (hp : ¬ (a ≠ b)) : Val P ⟨some d, .binOp .neq xt x y yt, ty, pos, af, gd⟩ f L (.bool false) := by
  have := vl_neq (P := P) (d := d) (ty := ty) (pos := pos) (af := af) (gd := gd) (xt := xt) (yt := yt) (L := L) hx hy
  rwa [decide_eq_false hp] at this
theorem vl_eql_bl {xt yt : TypeId} {x y : Operand} {a b r : Bool} (hx : evalF f x = .bool a) (hy : evalF f y = .bool b) (hu : P.underlying xt = some .bool) (hr : decide (a = b) = r) : Val P ⟨some d, .binOp .eql xt x y yt, ty, pos, af, gd⟩ f L (.bool r) := by
  rw [← hr]; exact vl_eql_b hx hy hu
theorem vl_eql_st {xt yt : TypeId} {x y : Operand} {a b : List UInt8} (hx : evalF f x = .string (S a)) (hy : evalF f y = .string (S b)) (hp : a = b) : Val P ⟨some d, .binOp .eql xt x y yt, ty, pos, af, gd⟩ f L (.bool true) := by
  have := vl_eql_s (P := P) (d := d) (ty := ty) (pos := pos) (af := af) (gd := gd) (xt := xt) (yt := yt) (L := L) hx hy
  rwa [decide_eq_true hp] at this
theorem vl_eql_sf {xt yt : TypeId} {x y : Operand} {a b : List UInt8} (hx : evalF f x = .string (S a)) (hy : evalF f y = .string (S b)) (hp : ¬ (a = b)) : Val P ⟨some d, .binOp .eql xt x y yt, ty, pos, af, gd⟩ f L (.bool false) := by
  have := vl_eql_s (P := P) (d := d) (ty := ty) (pos := pos) (af := af) (gd := gd) (xt := xt) (yt := yt) (L := L) hx hy
  rwa [decide_eq_false hp] at this
theorem vl_neq_bl {xt yt : TypeId} {x y : Operand} {a b r : Bool} (hx : evalF f x = .bool a) (hy : evalF f y = .bool b) (hu : P.underlying xt = some .bool) (hr : decide (a ≠ b) = r) : Val P ⟨some d, .binOp .neq xt x y yt, ty, pos, af, gd⟩ f L (.bool r) := by
  rw [← hr]; exact vl_neq_b hx hy hu
theorem vl_neq_st {xt yt : TypeId} {x y : Operand} {a b : List UInt8} (hx : evalF f x = .string (S a)) (hy : evalF f y = .string (S b)) (hp : a ≠ b) : Val P ⟨some d, .binOp .neq xt x y yt, ty, pos, af, gd⟩ f L (.bool true) := by
  have := vl_neq_s (P := P) (d := d) (ty := ty) (pos := pos) (af := af) (gd := gd) (xt := xt) (yt := yt) (L := L) hx hy
  rwa [decide_eq_true hp] at this
theorem vl_neq_sf {xt yt : TypeId} {x y : Operand} {a b : List UInt8} (hx : evalF f x = .string (S a)) (hy : evalF f y = .string (S b)) (hp : ¬ (a ≠ b)) : Val P ⟨some d, .binOp .neq xt x y yt, ty, pos, af, gd⟩ f L (.bool false) := by
  have := vl_neq_s (P := P) (d := d) (ty := ty) (pos := pos) (af := af) (gd := gd) (xt := xt) (yt := yt) (L := L) hx hy
  rwa [decide_eq_false hp] at this
theorem vl_field_ {s : TypeId} {x : Operand} {g o fi off o' : Nat} (hx : evalF f x = .pointer (some ⟨g, o, none⟩)) (hf : fieldOff P s fi = some off) (ho : o + off = o') : Val P ⟨some d, .fieldAddr s x fi, ty, pos, af, gd⟩ f L (.pointer (some ⟨g, o', none⟩)) := by
  rw [← ho]; exact vl_field hx hf
theorem vl_fieldS_ {α : Type} [Rep α] {v : Value} {xs : List α} {s : TypeId} {x : Operand} {i sz o fi off o' : Nat} (hx : evalF f x = elt v (i * sz + o)) (hr : RdT L v xs) (hi : i < xs.length) (hf : fieldOff P s fi = some off) (ho : o + off = o') : Val P ⟨some d, .fieldAddr s x fi, ty, pos, af, gd⟩ f L (elt v (i * sz + o')) := by
  rw [← ho]; exact vl_fieldS hx hr hi hf
theorem vl_idxA_ {t e : TypeId} {x y : Operand} {g o m sz o' : Nat} {k : IntKind} {j : Int} (hx : evalF f x = .pointer (some ⟨g, o, none⟩)) (hy : evalF f y = .int k j) (hu : P.underlying t = some (.array m e)) (hs : P.cellsOf e = sz) (hp : Nat.blt 0 sz = true)
    (h0 : 0 ≤ j) (h1 : j < (m : Int)) (ho : o + j.toNat * sz = o') : Val P ⟨some d, .indexAddr t x y, ty, pos, af, gd⟩ f L (.pointer (some ⟨g, o', none⟩)) := by
  rw [← ho]; exact vl_idxA hx hy hu hs hp h0 h1
end
/-- A call, by the callee's contract. -/
theorem st_call {P : Program} {n : Nat} {ops : Array Oper} {Q : Post} {f : Nat → Value} {L : List Assn} {rest : List Oper} {d : Option Nat} {ty : TypeId} {pos : String} {af : Array Edge} {fn : FuncId} {xs : List Operand} {vs : List Value} {ts : Array TypeId} {R : Value → List Assn → Prop}
    (hd : dstOk n d = true) (hrun : ∀ (xs : Array Value) (w : World), (callFunc fn xs).run P w = .ok (.enter fn xs) w) (hf : Fn P fn vs.toArray L R) (ha : xs.map (evalF f) = vs) (h : ∀ v L', R v L' → ExL P n ops rest Q (updo f d v) L') :
    ExL P n ops (⟨d, .call ⟨.value (.func fn), xs.toArray, ts⟩, ty, pos, af, none⟩ :: rest) Q f L :=
  ExL.call rfl hd rfl hrun (by rw [List.map_toArray, ha]; exact hf) h
/-- A call with what stands at place i brought to the front. -/
theorem st_callAt (i : Nat) {P : Program} {n : Nat} {ops : Array Oper} {Q : Post} {f : Nat → Value} {L : List Assn} {A : Assn} {rest : List Oper} {d : Option Nat} {ty : TypeId} {pos : String} {af : Array Edge} {fn : FuncId} {xs : List Operand} {vs : List Value} {ts : Array TypeId} {R : Value → List Assn → Prop}
    (hd : dstOk n d = true) (hrun : ∀ (xs : Array Value) (w : World), (callFunc fn xs).run P w = .ok (.enter fn xs) w) (hi : L[i]? = some A) (hf : Fn P fn vs.toArray (A :: L.eraseIdx i) R) (ha : xs.map (evalF f) = vs) (h : ∀ v L', R v L' → ExL P n ops rest Q (updo f d v) L') :
    ExL P n ops (⟨d, .call ⟨.value (.func fn), xs.toArray, ts⟩, ty, pos, af, none⟩ :: rest) Q f L :=
  st_call hd hrun (hf.sub (Sub.front i hi)) ha h
/-! Which kind of operation it is. -/
section
variable {P : Program} {f : Nat → Value} {L : List Assn} {v : Value} {dd : Option Nat} {ty : TypeId} {pos : String} {af : Array Edge} {gd : Option (Nat × Bool)}
theorem isLoad {t : TypeId} {x : Operand} (h : Val P ⟨dd, .load t x, ty, pos, af, gd⟩ f L v) : Val P ⟨dd, .load t x, ty, pos, af, gd⟩ f L v := h
theorem isField {t : TypeId} {x : Operand} {i : Nat} (h : Val P ⟨dd, .fieldAddr t x i, ty, pos, af, gd⟩ f L v) : Val P ⟨dd, .fieldAddr t x i, ty, pos, af, gd⟩ f L v := h
theorem isIdx {t : TypeId} {x y : Operand} (h : Val P ⟨dd, .indexAddr t x y, ty, pos, af, gd⟩ f L v) : Val P ⟨dd, .indexAddr t x y, ty, pos, af, gd⟩ f L v := h
theorem isBin {op : BinOp} {t u : TypeId} {x y : Operand} (h : Val P ⟨dd, .binOp op t x y u, ty, pos, af, gd⟩ f L v) : Val P ⟨dd, .binOp op t x y u, ty, pos, af, gd⟩ f L v := h
theorem isCall {b : Builtin} {xs : Array Operand} {ts : Array TypeId} (h : Val P ⟨dd, .call ⟨.builtin b, xs, ts⟩, ty, pos, af, gd⟩ f L v) : Val P ⟨dd, .call ⟨.builtin b, xs, ts⟩, ty, pos, af, gd⟩ f L v := h
theorem isSlice {t : TypeId} {x : Operand} {a b c : Option Operand} (h : Val P ⟨dd, .slice t x a b c, ty, pos, af, gd⟩ f L v) : Val P ⟨dd, .slice t x a b c, ty, pos, af, gd⟩ f L v := h
theorem isLss {t u : TypeId} {x y : Operand} (h : Val P ⟨dd, .binOp .lss t x y u, ty, pos, af, gd⟩ f L v) : Val P ⟨dd, .binOp .lss t x y u, ty, pos, af, gd⟩ f L v := h
theorem isEql {t u : TypeId} {x y : Operand} (h : Val P ⟨dd, .binOp .eql t x y u, ty, pos, af, gd⟩ f L v) : Val P ⟨dd, .binOp .eql t x y u, ty, pos, af, gd⟩ f L v := h
theorem isNeq {t u : TypeId} {x y : Operand} (h : Val P ⟨dd, .binOp .neq t x y u, ty, pos, af, gd⟩ f L v) : Val P ⟨dd, .binOp .neq t x y u, ty, pos, af, gd⟩ f L v := h
theorem isLeq {t u : TypeId} {x y : Operand} (h : Val P ⟨dd, .binOp .leq t x y u, ty, pos, af, gd⟩ f L v) : Val P ⟨dd, .binOp .leq t x y u, ty, pos, af, gd⟩ f L v := h
theorem isGtr {t u : TypeId} {x y : Operand} (h : Val P ⟨dd, .binOp .gtr t x y u, ty, pos, af, gd⟩ f L v) : Val P ⟨dd, .binOp .gtr t x y u, ty, pos, af, gd⟩ f L v := h
theorem isGeq {t u : TypeId} {x y : Operand} (h : Val P ⟨dd, .binOp .geq t x y u, ty, pos, af, gd⟩ f L v) : Val P ⟨dd, .binOp .geq t x y u, ty, pos, af, gd⟩ f L v := h
theorem isConv {t u : TypeId} {x : Operand} (h : Val P ⟨dd, .convert t u x, ty, pos, af, gd⟩ f L v) : Val P ⟨dd, .convert t u x, ty, pos, af, gd⟩ f L v := h
variable {n : Nat} {ops : Array Oper} {Q : Post} {rest : List Oper}
theorem exlStore {t : TypeId} {x y : Operand} (h : ExL P n ops (⟨dd, .store t x y, ty, pos, af, gd⟩ :: rest) Q f L) : ExL P n ops (⟨dd, .store t x y, ty, pos, af, gd⟩ :: rest) Q f L := h
theorem exlAppend {xs : Array Operand} {ts : Array TypeId} (h : ExL P n ops (⟨dd, .call ⟨.builtin .append, xs, ts⟩, ty, pos, af, gd⟩ :: rest) Q f L) : ExL P n ops (⟨dd, .call ⟨.builtin .append, xs, ts⟩, ty, pos, af, gd⟩ :: rest) Q f L := h
theorem exlGuard {o : Op} {jw : Nat × Bool} (h : ExL P n ops (⟨dd, o, ty, pos, af, some jw⟩ :: rest) Q f L) : ExL P n ops (⟨dd, o, ty, pos, af, some jw⟩ :: rest) Q f L := h
end
/-- What is returned: temporaries, variables. -/
def RVal (P : Program) (f : Nat → Value) (L : List Assn) : ResultVar → Value → Prop
  | .tmp t, v => f t = v
  | .cell a t, v => ∃ ad, f a = .pointer (some ad) ∧ ∀ F w, Sats w L F → (loadVar t ad).run P w = .ok v w
def RVals (P : Program) (f : Nat → Value) (L : List Assn) : List ResultVar → List Value → Prop
  | [], [] => True
  | r :: rs, v :: vs => RVal P f L r v ∧ RVals P f L rs vs
  | _, _ => False
section
variable {P : Program} {f : Nat → Value} {L : List Assn} {fn : Func}
theorem mapM_res {w : World} (g : ResultVar → Sem Value) : ∀ {rs : List ResultVar} {vs : List Value}, RVals P f L rs vs → (∀ r v, RVal P f L r v → (g r).run P w = .ok v w) → (rs.mapM g).run P w = .ok vs w
  | [], [], _, _ => rfl
  | r :: rs, v :: vs, ⟨h1, h2⟩, hg => by
    simp only [List.mapM_cons, Sem.run_bind, hg r v h1, Result.andThen_ok, mapM_res g h2 hg, Sem.run_pure]
theorem res_any {rs : List ResultVar} {vs : List Value} (hr : fn.results = rs.toArray) (h : RVals P f L rs vs) : ResV P fn f L (if h : vs.toArray.size = 1 then vs.toArray[0] else .tuple vs.toArray) := fun F w tmps ht s => by
  unfold results
  rw [hr, Array.mapM_eq_mapM_toList]
  simp only [Sem.run_bind, Sem.run_map]
  rw [mapM_res _ h fun r v hv => ?_]
  · rfl
  · cases r with
    | tmp t =>
      have hv : f t = v := hv
      simp only [Sem.run_pure, ht, hv]
    | cell a t =>
      obtain ⟨ad, h1, h2⟩ := hv
      simp only [ht, h1, asAddr, Sem.run_bind, Sem.run_pure, Result.andThen_ok, h2 F w s]
theorem res_1 {r : ResultVar} {v : Value} (hr : fn.results = #[r]) (h : RVal P f L r v) : ResV P fn f L v := res_any (rs := [r]) (vs := [v]) hr ⟨h, trivial⟩
theorem res_2 {r1 r2 : ResultVar} {v1 v2 : Value} (hr : fn.results = #[r1, r2]) (h1 : RVal P f L r1 v1) (h2 : RVal P f L r2 v2) : ResV P fn f L (.tuple #[v1, v2]) := res_any (rs := [r1, r2]) (vs := [v1, v2]) hr ⟨h1, h2, trivial⟩
theorem res_3 {r1 r2 r3 : ResultVar} {v1 v2 v3 : Value} (hr : fn.results = #[r1, r2, r3]) (h1 : RVal P f L r1 v1) (h2 : RVal P f L r2 v2) (h3 : RVal P f L r3 v3) : ResV P fn f L (.tuple #[v1, v2, v3]) := res_any (rs := [r1, r2, r3]) (vs := [v1, v2, v3]) hr ⟨h1, h2, h3, trivial⟩
theorem res_0 (hr : fn.results = #[]) : ResV P fn f L (.tuple #[]) := res_any (rs := []) (vs := []) hr trivial
theorem rv_tmp {t : Tmp} {v : Value} (h : f t = v) : RVal P f L (.tmp t) v := h
theorem rv_cell1 (i : Nat) {a : Tmp} {t bt : TypeId} {g o : Nat} {cs : List Value} {v : Value} (hx : f a = .pointer (some ⟨g, o, none⟩)) (hi : L[i]? = some (Blk g bt cs)) (hA : aggB P t = some false) (hv : cs[o]? = some v) : RVal P f L (.cell a t) v :=
  ⟨_, hx, fun F w s => run_loadVar1 w hA (blk_cell hi hv s)⟩
theorem rv_cellW (i : Nat) {a : Tmp} {t bt : TypeId} {g : Nat} {cs : List Value} (hx : f a = .pointer (some ⟨g, 0, none⟩)) (hi : L[i]? = some (Blk g bt cs)) (hA : aggB P t = some true) (hm : P.cellsOf t = cs.length) (hp : Nat.blt 0 cs.length = true) : RVal P f L (.cell a t) (.agg cs.toArray) :=
  ⟨_, hx, fun F w s => run_loadVarA w hA hm (Nat.le_of_ble_eq_true hp) fun j v hj => by rw [addr_add, Nat.zero_add]; exact blk_cell hi hj s⟩
/-- The end of a walk. -/
theorem fin_ret {R : Value → List Assn → Prop} {v : Value} (hv : ResV P fn f L v) (h : ∃ L', Sub L' L ∧ R v L') : fin P fn R .ret f L := let ⟨L', hs, h⟩ := h; ⟨v, L', hv, hs, h⟩
theorem fin_norm {R : Value → List Assn → Prop} {v : Value} (hv : ResV P fn f L v) (h : ∃ L', Sub L' L ∧ R v L') : fin P fn R .normal f L := let ⟨L', hs, h⟩ := h; ⟨v, L', hv, hs, h⟩
end
end Go.Proofs.Ytkcpgdkchglhhaa
