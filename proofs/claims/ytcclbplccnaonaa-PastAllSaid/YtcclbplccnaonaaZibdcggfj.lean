/- Several texts, one behind the other; each says in its head what it proves. No condition. -/
import Derived.Test.YtcclbplccnaonaaZfeodhdok
import Derived.Test.YtcclbplccnaonaaZkbdnacgf
import Derived.Test.YtcclbplccnaonaaZbjcafbdh
/- Package past, walked: mark, reach, Clock, Ordered. No condition. -/
namespace Go.Proofs.Ytcclbplccnaonaa
open Go.RowKit
set_option linter.unusedSimpArgs false
set_option linter.unusedVariables false
instance : KeyV Try.prog 60 Mk := KeyV.ofT
@[reducible] def MS (g : Nat) (ks : List Mk) : Assn := MapV (κ := Mk) aggV g (setM ks)
set_option maxRecDepth 20000 attribute [local irreducible] Ex ExL Fn thn inb rnd fin meet Tab Mix mxEnd Val Sats RdT Rd RowT Row Blk Sub Fac ResV RVal Evs subs subs3 Hid Capd
theorem pmark_F (e : Ev) (M : List Assn) : Fn Try.prog 32 #[.agg (Rep.cells e).toArray] M fun v L' => v = .agg (Rep.cells e.mk_).toArray ∧ L' = M := by
  refine Fn.of_ex Try.func32 rfl Try.ntmps32 rfl ?_
  (refine rn ?_; (repeat (first | intro (g : Nat) | intro (v : Value) | intro (o : Value.oneCell' _ = true) | intro (cs : List Value) | intro (hcs : _ = List.set _ _ _) | intro (zs : List _) | intro (hzs : _))))
  (first | refine fin_ret rS ?_ | refine fin_norm rS ?_)
  exact ⟨_, rB, rfl, rfl⟩
set_option maxHeartbeats 4000000 in
theorem reach_F (g0 : Nat) (ks : List Mk) (l : List Ev) (c : Clk) (M : List Assn) (hks : ∀ k, k ∈ ks ↔ k ∈ marks l) (hl : l.length ≤ 1000000) (hc : ∀ i, i < 5 → -1000000000 ≤ c.get i ∧ c.get i ≤ 1000000000) :
    Fn Try.prog 33 #[.map (some g0), c.val] (MS g0 ks :: M) fun v L' => v = (reachC l c).val ∧ L' = MS g0 ks :: M := by
  refine Fn.of_ex Try.func33 rfl Try.ntmps33 rfl ?_
  (refine rn ?_; (repeat (first | intro (g : Nat) | intro (v : Value) | intro (o : Value.oneCell' _ = true) | intro (cs : List Value) | intro (hcs : _ = List.set _ _ _) | intro (zs : List _) | intro (hzs : _))))
  revert g
  intro g4
  revert g
  intro g3
  refine Ex.loop [6] (fun m vs L' => ∃ (i : Nat) (d : Clk), i ≤ 5 ∧ m = 5 - i ∧ vs = [.int .i64 i] ∧ (∀ j, j < 5 → d.get j = if j < i then upTo l j (c.get j) else c.get j) ∧ L' = Blk g4 29 (Rep.cells Clk.zero) :: Blk g3 29 (Rep.cells d) :: MS g0 ks :: M) 5 ⟨0, c, by omega, rfl, rfl, fun j hj => by rw [if_neg (by omega)], rfl⟩ ?_
  rintro m vs g1 L' ⟨i, d, hi, rfl, rfl, hall, rfl⟩
  refine Ex.keep [0, 3, 4, 6] rG (fun gk => ?_)
  by_cases hlt : i < 5
  · (refine rn ?_; (repeat (first | intro (g : Nat) | intro (v : Value) | intro (o : Value.oneCell' _ = true) | intro (cs : List Value) | intro (hcs : _ = List.set _ _ _) | intro (zs : List _) | intro (hzs : _))))
    refine Ex.loop [5] (fun m vs L' => ∃ (e : Clk) (n : Int), m = (upTo l i (c.get i) - n).toNat ∧ vs = [.int .i64 i] ∧ c.get i ≤ n ∧ n ≤ upTo l i (c.get i) ∧ (∀ j, j < 5 → e.get j = if j = i then n else d.get j) ∧ L' = Blk g4 29 (Rep.cells Clk.zero) :: Blk g3 29 (Rep.cells e) :: MS g0 ks :: M) _ ⟨d, c.get i, rfl, rfl, Int.le_refl _, (upTo_spec l i (c.get i)).1, fun j hj => by
      split
      · rename_i h; subst h; rw [hall j hj, if_neg (by omega)]
      · rfl, rfl⟩ ?_
    rintro m vs g2 L' ⟨e, n, rfl, rfl, hn1, hn2, hed, rfl⟩
    refine Ex.keep [0, 3, 4, 5, 6] rG (fun gk => ?_)
    have hub := upTo_le l i (c.get i)
    have hci := hc i hlt
    have e1 := Clk.getD_eq e (i : Int).toNat
    rw [show e.get (i : Int).toNat = e.get i from rfl, hed i hlt, if_pos rfl] at e1
    have hus := upTo_spec l i (c.get i)
    have hmem : (⟨i, n + 1⟩ : Mk) ∈ ks ↔ n < upTo l i (c.get i) := by
      rw [hks]
      refine ⟨fun h => ?_, fun h => hus.2.1 _ (by omega) (by omega)⟩
      refine Classical.byContradiction fun hc2 => ?_
      have : n = upTo l i (c.get i) := by omega
      rw [this] at h
      exact hus.2.2 h
    (refine rn ?_; (repeat (first | intro (g : Nat) | intro (v : Value) | intro (o : Value.oneCell' _ = true) | intro (cs : List Value) | intro (hcs : _ = List.set _ _ _) | intro (zs : List _) | intro (hzs : _))))
    rw [e1]
    refine ExL.val (by rfl) (by rfl) (by rfl) (vl_lookup1 2 (kt := 60) (k := (⟨i, n + 1⟩ : Mk)) (z := .bool false) (by rfl) (by rfl) (by rfl) (by rfl) (by rfl)) ?_
    rw [setM_look]
    by_cases hlt2 : n < upTo l i (c.get i)
    · rw [decide_eq_true (hmem.2 hlt2)]
      have hcl : (Rep.cells e).length = 5 := rfl
      clear hus hmem
      (refine rn ?_; (repeat (first | intro (g : Nat) | intro (v : Value) | intro (o : Value.oneCell' _ = true) | intro (cs : List Value) | intro (hcs : _ = List.set _ _ _) | intro (zs : List _) | intro (hzs : _))))
      rw [show (0 + (i : Int).toNat * 1) = i by omega, e1, Clk.cells_set e i hlt] at hcs
      subst hcs
      exact rnd_n ⟨(upTo l i (c.get i) - (n + 1)).toNat, Blk g4 29 (Rep.cells Clk.zero) :: Blk g3 29 (Rep.cells (e.set i (n + 1))) :: MS g0 ks :: M, by omega, rB, _, n + 1, rfl, rfl, by omega, by omega, (fun j hj => by
        rw [Clk.get_set _ _ _ _ hlt]
        split
        · rfl
        · rename_i h; rw [hed j hj, if_neg h]), rfl⟩
    · rw [decide_eq_false (fun h => hlt2 (hmem.1 h))]
      have hn : n = upTo l i (c.get i) := by omega
      clear hus hmem
      (refine rn ?_; (repeat (first | intro (g : Nat) | intro (v : Value) | intro (o : Value.oneCell' _ = true) | intro (cs : List Value) | intro (hcs : _ = List.set _ _ _) | intro (zs : List _) | intro (hzs : _))))
      exact rnd_n ⟨5 - (i + 1), Blk g4 29 (Rep.cells Clk.zero) :: Blk g3 29 (Rep.cells e) :: MS g0 ks :: M, by omega, rB, i + 1, e, by omega, rfl, lcons (vint (by omega)) rfl, (fun j hj => by
        rw [hed j hj]
        by_cases hji : j = i
        · subst hji
          rw [if_pos rfl, if_pos (by omega), hn]
        · rw [if_neg hji, hall j hj]
          by_cases hj2 : j < i
          · rw [if_pos hj2, if_pos (by omega)]
          · rw [if_neg hj2, if_neg (by omega)]), rfl⟩
  · have hd : d = reachC l c := Clk.ext_get fun j hj => by
      rw [hall j hj, if_pos (by omega)]
      unfold reachC
      rw [clk5_get _ _ hj]
    subst hd
    (refine rn ?_; (repeat (first | intro (g : Nat) | intro (v : Value) | intro (o : Value.oneCell' _ = true) | intro (cs : List Value) | intro (hcs : _ = List.set _ _ _) | intro (zs : List _) | intro (hzs : _))))
    (first | refine fin_ret rS ?_ | refine fin_norm rS ?_)
    exact ⟨_, rB, rfl, rfl⟩
theorem marks_take {l : List Ev} {i : Nat} (h : i < l.length) {ks : List Mk} (hk : ∀ k, k ∈ ks ↔ k ∈ marks (l.take i)) : ∀ k, k ∈ (if (l[i]'h).mk_ ∈ ks then ks else ks ++ [(l[i]'h).mk_]) ↔ k ∈ marks (l.take (i + 1)) := fun k => by
  have e : marks (l.take (i + 1)) = marks (l.take i) ++ [(l[i]'h).mk_] := by rw [List.take_succ_eq_append_getElem h, marks_app]; rfl
  rw [e]
  split
  · rename_i hm
    constructor
    · exact fun hx => List.mem_append_left _ ((hk k).1 hx)
    · intro hx
      rcases List.mem_append.1 hx with hx | hx
      · exact (hk k).2 hx
      · simp only [List.mem_singleton] at hx
        rw [hx]; exact hm
  · constructor
    · intro hx
      rcases List.mem_append.1 hx with hx | hx
      · exact List.mem_append_left _ ((hk k).1 hx)
      · exact List.mem_append_right _ hx
    · intro hx
      rcases List.mem_append.1 hx with hx | hx
      · exact List.mem_append_left _ ((hk k).2 hx)
      · exact List.mem_append_right _ hx
set_option maxHeartbeats 4000000 in
theorem pclock_F (v0 : Value) (l : List Ev) (M : List Assn) (hr : RdT M v0 l) (hl : l.length ≤ 1000000) : Fn Try.prog 17 #[v0] M fun v L' => v = (clockP l).val ∧ L' = M := by
  refine Fn.of_ex Try.func17 rfl Try.ntmps17 rfl ?_
  (refine rn ?_; (repeat (first | intro (g : Nat) | intro (v : Value) | intro (o : Value.oneCell' _ = true) | intro (cs : List Value) | intro (hcs : _ = List.set _ _ _) | intro (zs : List _) | intro (hzs : _))))
  revert g
  intro g2
  refine st_makeMapV (κ := Mk) aggV (by rfl) (fun g0 => ?_)
  (refine rn ?_; (repeat (first | intro (g : Nat) | intro (v : Value) | intro (o : Value.oneCell' _ = true) | intro (cs : List Value) | intro (hcs : _ = List.set _ _ _) | intro (zs : List _) | intro (hzs : _))))
  refine Ex.sub (L' := MS g0 [] :: Blk g2 29 (Rep.cells Clk.zero) :: M) ?_ rB
  refine Ex.loop [9] (fun m vs L' => ∃ (i : Nat) (ks : List Mk), i ≤ l.length ∧ m = l.length - i ∧ vs = [.int .i64 i] ∧ (∀ k, k ∈ ks ↔ k ∈ marks (l.take i)) ∧ L' = MS g0 ks :: Blk g2 29 (Rep.cells Clk.zero) :: M) l.length ⟨0, [], by omega, by omega, rfl, by simp [marks], rfl⟩ ?_
  rintro m vs g1 L' ⟨i, ks, hi, rfl, rfl, hks, rfl⟩
  refine Ex.keep [2, 3, 7, 8, 9] rG (fun gk => ?_)
  by_cases hlt : i < l.length
  · have hk2 := marks_take hlt hks
    (refine rn ?_; (repeat (first | intro (g : Nat) | intro (v : Value) | intro (o : Value.oneCell' _ = true) | intro (cs : List Value) | intro (hcs : _ = List.set _ _ _) | intro (zs : List _) | intro (hzs : _))))
    refine st_callIs [] (by rfl) Try.call32 (by rfl) (by rfl) (pmark_F (l[i]'hlt) _) ?_
    rintro _ _ ⟨rfl, rfl⟩
    refine st_mapPut 1 (kt := 60) (kv := aggV) rfl (k := (l[i]'hlt).mk_) (by rfl) (by rfl) (by rfl) (by rfl) (by rfl) rE ?_
    rw [setM_put]
    (refine rn ?_; (repeat (first | intro (g : Nat) | intro (v : Value) | intro (o : Value.oneCell' _ = true) | intro (cs : List Value) | intro (hcs : _ = List.set _ _ _) | intro (zs : List _) | intro (hzs : _))))
    exact rnd_n ⟨l.length - (i + 1), _, by omega, rB, i + 1, _, by omega, rfl, lcons (vint (by omega)) rfl, hk2, rfl⟩
  · obtain rfl : i = l.length := by omega
    rw [List.take_length] at hks
    (refine rn ?_; (repeat (first | intro (g : Nat) | intro (v : Value) | intro (o : Value.oneCell' _ = true) | intro (cs : List Value) | intro (hcs : _ = List.set _ _ _) | intro (zs : List _) | intro (hzs : _))))
    refine st_callIs [] (by rfl) Try.call33 (by rfl) (by rfl) (reach_F g0 ks l Clk.zero _ hks hl (fun i _ => by rw [zero_get]; omega)) ?_
    rintro _ _ ⟨rfl, rfl⟩
    (refine rn ?_; (repeat (first | intro (g : Nat) | intro (v : Value) | intro (o : Value.oneCell' _ = true) | intro (cs : List Value) | intro (hcs : _ = List.set _ _ _) | intro (zs : List _) | intro (hzs : _))))
    (first | refine fin_ret rS ?_ | refine fin_norm rS ?_)
    exact ⟨_, rB, rfl, rfl⟩
set_option maxHeartbeats 4000000 in
theorem ordered_F (v0 : Value) (l : List Ev) (M : List Assn) (hr : RdT M v0 l) (hl : l.length ≤ 1000000) : Fn Try.prog 15 #[v0] M fun v L' => (∃ b : Bool, (b = true ↔ OrdP l) ∧ v = .bool b) ∧ L' = M := by
  refine Fn.of_ex Try.func15 rfl Try.ntmps15 rfl ?_
  (refine rn ?_; (repeat (first | intro (g : Nat) | intro (v : Value) | intro (o : Value.oneCell' _ = true) | intro (cs : List Value) | intro (hcs : _ = List.set _ _ _) | intro (zs : List _) | intro (hzs : _))))
  refine st_makeMapV (κ := Mk) aggV (by rfl) (fun g0 => ?_)
  (refine rn ?_; (repeat (first | intro (g : Nat) | intro (v : Value) | intro (o : Value.oneCell' _ = true) | intro (cs : List Value) | intro (hcs : _ = List.set _ _ _) | intro (zs : List _) | intro (hzs : _))))
  revert g
  intro g2
  refine Ex.reord [1] rE ?_
  refine Ex.sub (L' := MS g0 [] :: Blk g2 29 (Rep.cells Clk.zero) :: M) ?_ rB
  refine Ex.loop [10] (fun m vs L' => ∃ (i : Nat) (ks : List Mk) (c : Clk), i ≤ l.length ∧ m = l.length - i ∧ vs = [.int .i64 i] ∧ (∀ k, k ∈ ks ↔ k ∈ marks (l.take i)) ∧ c = clockP (l.take i) ∧ (∀ j (h : j < l.length), j < i → (l[j]'h).c.le (clockP (l.take j)) = true) ∧ L' = MS g0 ks :: Blk g2 29 (Rep.cells c) :: M) l.length ⟨0, [], Clk.zero, by omega, by omega, rfl, by simp [marks], clock_nil.symm, fun j _ hj => by omega, rfl⟩ ?_
  rintro m vs g1 L' ⟨i, ks, c, hi, rfl, rfl, hks, hc, hall, rfl⟩
  refine Ex.keep [3, 4, 8, 9, 10] rG (fun gk => ?_)
  by_cases hlt : i < l.length
  · have hk2 := marks_take hlt hks
    have hcb : ∀ j, j < 5 → 0 ≤ c.get j ∧ c.get j ≤ 1000000 := fun j hj => by
      have := clockP_bd (l.take i) hj
      rw [← hc, List.length_take] at this
      omega
    cases hle : (l[i]'hlt).c.le c
    · have hno : ¬ OrdP l := fun h => by
        have := h i hlt
        rw [← hc, hle] at this
        cases this
      clear hall hcb hk2
      (refine rn ?_; (repeat (first | intro (g : Nat) | intro (v : Value) | intro (o : Value.oneCell' _ = true) | intro (cs : List Value) | intro (hcs : _ = List.set _ _ _) | intro (zs : List _) | intro (hzs : _))))
      refine st_callIs [] (by rfl) Try.call34 (by rfl) (by rfl) (le_F (l[i]'hlt).c c _) ?_
      rintro _ _ ⟨rfl, rfl⟩
      rw [hle]
      (refine rn ?_; (repeat (first | intro (g : Nat) | intro (v : Value) | intro (o : Value.oneCell' _ = true) | intro (cs : List Value) | intro (hcs : _ = List.set _ _ _) | intro (zs : List _) | intro (hzs : _))))
      (first | refine fin_ret rS ?_ | refine fin_norm rS ?_)
      exact ⟨_, rB, ⟨false, ⟨fun h => (by cases h), fun h => (hno h).elim⟩, rfl⟩, rfl⟩
    · have hall2 : ∀ j (h : j < l.length), j < i + 1 → (l[j]'h).c.le (clockP (l.take j)) = true := fun j h hj => by
        by_cases hji : j = i
        · subst hji; rw [← hc]; exact hle
        · exact hall j h (by omega)
      have hmid : reachC (l.take (i + 1)) c = clockP (l.take (i + 1)) := reachC_mid (fun j hj => (hcb j hj).1) (by
        rw [hc]
        refine le_clockP.2 fun r n hh => ?_
        have := has_clockP hh
        rw [List.take_succ_eq_append_getElem hlt, marks_app]
        exact List.mem_append_left _ this)
      clear hall
      (refine rn ?_; (repeat (first | intro (g : Nat) | intro (v : Value) | intro (o : Value.oneCell' _ = true) | intro (cs : List Value) | intro (hcs : _ = List.set _ _ _) | intro (zs : List _) | intro (hzs : _))))
      refine st_callIs [] (by rfl) Try.call34 (by rfl) (by rfl) (le_F (l[i]'hlt).c c _) ?_
      rintro _ _ ⟨rfl, rfl⟩
      rw [hle]
      (refine rn ?_; (repeat (first | intro (g : Nat) | intro (v : Value) | intro (o : Value.oneCell' _ = true) | intro (cs : List Value) | intro (hcs : _ = List.set _ _ _) | intro (zs : List _) | intro (hzs : _))))
      refine st_callIs [] (by rfl) Try.call32 (by rfl) (by rfl) (pmark_F (l[i]'hlt) _) ?_
      rintro _ _ ⟨rfl, rfl⟩
      refine st_mapPut 1 (kt := 60) (kv := aggV) rfl (k := (l[i]'hlt).mk_) (by rfl) (by rfl) (by rfl) (by rfl) (by rfl) rE ?_
      rw [setM_put]
      (refine rn ?_; (repeat (first | intro (g : Nat) | intro (v : Value) | intro (o : Value.oneCell' _ = true) | intro (cs : List Value) | intro (hcs : _ = List.set _ _ _) | intro (zs : List _) | intro (hzs : _))))
      refine st_callIs [1] (by rfl) Try.call33 rE (by rfl) (reach_F g0 _ (l.take (i + 1)) c _ hk2 (by rw [List.length_take]; omega) (fun j hj => by have := hcb j hj; omega)) ?_
      rintro _ _ ⟨rfl, rfl⟩
      (refine rn ?_; (repeat (first | intro (g : Nat) | intro (v : Value) | intro (o : Value.oneCell' _ = true) | intro (cs : List Value) | intro (hcs : _ = List.set _ _ _) | intro (zs : List _) | intro (hzs : _))))
      exact rnd_n ⟨l.length - (i + 1), _, by omega, rB, i + 1, _, _, by omega, rfl, lcons (vint (by omega)) rfl, hk2, hmid, hall2, rfl⟩
  · obtain rfl : i = l.length := by omega
    (refine rn ?_; (repeat (first | intro (g : Nat) | intro (v : Value) | intro (o : Value.oneCell' _ = true) | intro (cs : List Value) | intro (hcs : _ = List.set _ _ _) | intro (zs : List _) | intro (hzs : _))))
    (first | refine fin_ret rS ?_ | refine fin_norm rS ?_)
    exact ⟨_, rB, ⟨true, ⟨fun _ => fun j h => hall j h h, fun _ => rfl⟩, rfl⟩, rfl⟩
end Go.Proofs.Ytcclbplccnaonaa
/- Fields and elements of whole values. No condition. -/
namespace Go.Proofs.Ytcclbplccnaonaa
open Go.RowKit
set_option linter.unusedSimpArgs false
set_option linter.unusedVariables false
section
variable {P : Program} {f : Nat → Value} {L : List Assn} {d : Nat} {ty : TypeId} {pos : String} {af : Array Edge} {gd : Option (Nat × Bool)}
theorem extract_toArray (cs : List Value) (o m : Nat) : cs.toArray.extract o (o + m) = ((cs.drop o).take m).toArray := by
  simp [List.take_drop]
/-- x.f, of a whole structure: a structure or an array. -/
theorem vl_fieldV {s : TypeId} {x : Operand} {fi m : Nat} {fs : Array Field} {fd : Field} {cs ws : List Value} (hx : evalF f x = .agg cs.toArray) (hu : P.underlying s = some (.struct fs)) (hf : fs[fi]? = some fd) (hA : aggB P fd.type = some true) (hm : P.cellsOf fd.type = m)
    (hp : Nat.blt 0 m = true) (hl : seqL ((cs.drop fd.offset).take m) = some ws) : Val P ⟨some d, .field s x fi, ty, pos, af, gd⟩ f L (.agg ws.toArray) := fun F w h => by
  rw [← seqL_eq hl, ← extract_toArray]
  simp [execOp, hx, Instr.field, run_underlying hu, hf, asAgg, part, run_isAgg w hA, run_sizeOf' w hm (Nat.le_of_ble_eq_true hp)]
/-- x.f, of a whole structure: one cell. -/
theorem vl_field1V {s : TypeId} {x : Operand} {fi : Nat} {fs : Array Field} {fd : Field} {cs : List Value} {v : Value} (hx : evalF f x = .agg cs.toArray) (hu : P.underlying s = some (.struct fs)) (hf : fs[fi]? = some fd) (hA : aggB P fd.type = some false)
    (hl : cs[fd.offset]? = some v) : Val P ⟨some d, .field s x fi, ty, pos, af, gd⟩ f L v := fun F w h => by
  simp [execOp, hx, Instr.field, run_underlying hu, hf, asAgg, part, run_isAgg w hA, hl]
/-- x[j], of a whole array: one cell. -/
theorem vl_index1V {t e : TypeId} {x y : Operand} {k : IntKind} {n j : Nat} {cs : List Value} {v : Value} (hx : evalF f x = .agg cs.toArray) (hy : evalF f y = .int k (j : Int)) (hu : P.underlying t = some (.array n e)) (hA : aggB P e = some false) (hs : P.cellsOf e = 1) (hj : Nat.blt j n = true)
    (hl : cs[j]? = some v) : Val P ⟨some d, .index t x y, ty, pos, af, gd⟩ f L v := fun F w h => by
  have hj : j < n := Nat.le_of_ble_eq_true hj
  simp [execOp, hx, hy, Instr.index, run_underlying hu, asIntOf, part, run_isAgg w hA, run_sizeOf' w hs (Nat.succ_pos 0), hl, hj]
/-- c[j], of a whole clock, at any place. -/
theorem vl_indexC {t e : TypeId} {x y : Operand} {k : IntKind} {j : Int} {a b c d' e' : Int} (hx : evalF f x = .agg [.int .i64 a, .int .i64 b, .int .i64 c, .int .i64 d', .int .i64 e'].toArray) (hy : evalF f y = .int k j) (hu : P.underlying t = some (.array 5 e)) (hA : aggB P e = some false) (hs : P.cellsOf e = 1) (h0 : 0 ≤ j) (h1 : j < 5) :
    Val P ⟨some d, .index t x y, ty, pos, af, gd⟩ f L (.int .i64 ((⟨a, b, c, d', e'⟩ : Clk).get j.toNat)) := fun F w h => by
  obtain ⟨i, rfl⟩ := Int.eq_ofNat_of_zero_le h0
  have hi : i < 5 := by omega
  have hl : [Value.int .i64 a, .int .i64 b, .int .i64 c, .int .i64 d', .int .i64 e'][i]? = some (.int .i64 ((⟨a, b, c, d', e'⟩ : Clk).get i)) := by
    match i, hi with
    | 0, _ => rfl
    | 1, _ => rfl
    | 2, _ => rfl
    | 3, _ => rfl
    | 4, _ => rfl
  simp [execOp, hx, hy, Instr.index, run_underlying hu, asIntOf, part, run_isAgg w hA, run_sizeOf' w hs (Nat.succ_pos 0), hi]
  exact (List.getElem?_eq_some_iff.1 hl).2
end
end Go.Proofs.Ytcclbplccnaonaa
/- Packages event and past, walked: May, Below; Height, Right. No condition. -/
namespace Go.Proofs.Ytcclbplccnaonaa
open Go.RowKit
set_option linter.unusedSimpArgs false
set_option linter.unusedVariables false
theorem getD7 (k : Clk) (x y : Int) {i : Nat} (h : i < 5) : [k.a, k.b, k.c, k.d, k.e, x, y].getD i 0 = k.get i := by
  match i, h with
  | 0, _ => rfl
  | 1, _ => rfl
  | 2, _ => rfl
  | 3, _ => rfl
  | 4, _ => rfl
set_option maxRecDepth 20000 attribute [local irreducible] Ex ExL Fn thn inb rnd fin meet Tab Mix mxEnd Val Sats RdT Rd RowT Row Blk Sub Fac ResV RVal Evs subs subs3 Hid Capd
theorem within_F (n a b : Int) (M : List Assn) : Fn Try.prog 44 #[.int .i64 n, .int .i64 a, .int .i64 b] M fun v L' => v = .bool (decide (a ≤ n ∧ n ≤ b)) ∧ L' = M := by
  refine Fn.of_ex Try.func44 rfl Try.ntmps44 rfl ?_
  by_cases h1 : a ≤ n
  · by_cases h2 : n ≤ b
    · rw [decide_eq_true (⟨h1, h2⟩ : a ≤ n ∧ n ≤ b)]
      (refine rn ?_; (repeat (first | intro (g : Nat) | intro (v : Value) | intro (o : Value.oneCell' _ = true) | intro (cs : List Value) | intro (hcs : _ = List.set _ _ _) | intro (zs : List _) | intro (hzs : _))))
      (first | refine fin_ret rS ?_ | refine fin_norm rS ?_)
      exact ⟨_, rB, rfl, rfl⟩
    · rw [decide_eq_false (fun h : a ≤ n ∧ n ≤ b => h2 h.2)]
      (refine rn ?_; (repeat (first | intro (g : Nat) | intro (v : Value) | intro (o : Value.oneCell' _ = true) | intro (cs : List Value) | intro (hcs : _ = List.set _ _ _) | intro (zs : List _) | intro (hzs : _))))
      (first | refine fin_ret rS ?_ | refine fin_norm rS ?_)
      exact ⟨_, rB, rfl, rfl⟩
  · rw [decide_eq_false (fun h : a ≤ n ∧ n ≤ b => h1 h.1)]
    (refine rn ?_; (repeat (first | intro (g : Nat) | intro (v : Value) | intro (o : Value.oneCell' _ = true) | intro (cs : List Value) | intro (hcs : _ = List.set _ _ _) | intro (zs : List _) | intro (hzs : _))))
    (first | refine fin_ret rS ?_ | refine fin_norm rS ?_)
    exact ⟨_, rB, rfl, rfl⟩
theorem below_F (a e : Ev) (M : List Assn) : Fn Try.prog 13 #[.agg (Rep.cells a).toArray, .agg (Rep.cells e).toArray] M fun v L' => v = .bool (e.c.has a.r a.n) ∧ L' = M := by
  refine Fn.of_ex Try.func13 rfl Try.ntmps13 rfl ?_
  (refine rn ?_; (repeat (first | intro (g : Nat) | intro (v : Value) | intro (o : Value.oneCell' _ = true) | intro (cs : List Value) | intro (hcs : _ = List.set _ _ _) | intro (zs : List _) | intro (hzs : _))))
  refine st_callIs [] (by rfl) Try.call30 (by rfl) (by rfl) (has_F e.c a.r a.n _) ?_
  rintro _ _ ⟨rfl, rfl⟩
  (refine rn ?_; (repeat (first | intro (g : Nat) | intro (v : Value) | intro (o : Value.oneCell' _ = true) | intro (cs : List Value) | intro (hcs : _ = List.set _ _ _) | intro (zs : List _) | intro (hzs : _))))
  (first | refine fin_ret rS ?_ | refine fin_norm rS ?_)
  exact ⟨_, rB, rfl, rfl⟩
set_option maxHeartbeats 4000000 in
theorem evMay_F (e : Ev) (M : List Assn) (hk : e.ed.key.length ≤ 9223372036854775807) (hv : e.ed.value.length ≤ 9223372036854775807) : Fn Try.prog 31 #[.agg (Rep.cells e).toArray] M fun v L' => (∃ x : Int, (x = 0 ↔ e.May) ∧ v = .int .i64 x) ∧ L' = M := by
  have hno : ¬ e.May → ∃ x : Int, (x = 0 ↔ e.May) ∧ Value.int .i64 1 = .int .i64 x := fun h => ⟨1, ⟨fun x => absurd x (by decide), fun k => (h k).elim⟩, rfl⟩
  refine Fn.of_ex Try.func31 rfl Try.ntmps31 rfl ?_
  (refine rn ?_; (repeat (first | intro (g : Nat) | intro (v : Value) | intro (o : Value.oneCell' _ = true) | intro (cs : List Value) | intro (hcs : _ = List.set _ _ _) | intro (zs : List _) | intro (hzs : _))))
  refine st_callIs [] (by rfl) Try.call44 (by rfl) (by rfl) (within_F e.r 0 4 _) ?_
  rintro _ _ ⟨rfl, rfl⟩
  by_cases hr : 0 ≤ e.r ∧ e.r ≤ 4
  · rw [decide_eq_true hr]
    (refine rn ?_; (repeat (first | intro (g : Nat) | intro (v : Value) | intro (o : Value.oneCell' _ = true) | intro (cs : List Value) | intro (hcs : _ = List.set _ _ _) | intro (zs : List _) | intro (hzs : _))))
    refine st_callIs [] (by rfl) Try.call44 (by rfl) (by rfl) (within_F e.n 1 1048576 _) ?_
    rintro _ _ ⟨rfl, rfl⟩
    by_cases hn : 1 ≤ e.n ∧ e.n ≤ 1048576
    · rw [decide_eq_true hn]
      (refine rn ?_; (repeat (first | intro (g : Nat) | intro (v : Value) | intro (o : Value.oneCell' _ = true) | intro (cs : List Value) | intro (hcs : _ = List.set _ _ _) | intro (zs : List _) | intro (hzs : _))))
      refine st_callIs [] (by rfl) Try.call44 (by rfl) (by rfl) (within_F e.h 1 16777216 _) ?_
      rintro _ _ ⟨rfl, rfl⟩
      by_cases hh : 1 ≤ e.h ∧ e.h ≤ 16777216
      · rw [decide_eq_true hh]
        (refine rn ?_; (repeat (first | intro (g : Nat) | intro (v : Value) | intro (o : Value.oneCell' _ = true) | intro (cs : List Value) | intro (hcs : _ = List.set _ _ _) | intro (zs : List _) | intro (hzs : _))))
        revert g
        intro g1
        refine Ex.loopS [23] (fun m vs => ∃ (i : Nat), i ≤ 5 ∧ m = 5 - i ∧ vs = [.int .i64 i] ∧ ∀ j, j < i → 0 ≤ e.c.get j ∧ e.c.get j ≤ 1048576) 5 ⟨0, by omega, by omega, rfl, fun j hj => by omega⟩ ?_
        rintro m vs g2 ⟨i, hi, rfl, rfl, hall⟩
        refine Ex.keep [1, 22, 23] rG (fun gk => ?_)
        by_cases hlt : i < 5
        · have hno2 : ¬ (0 ≤ e.c.get i ∧ e.c.get i ≤ 1048576) → ¬ e.May := fun h k => h (k.c i hlt)
          (refine rn ?_; (repeat (first | intro (g : Nat) | intro (v : Value) | intro (o : Value.oneCell' _ = true) | intro (cs : List Value) | intro (hcs : _ = List.set _ _ _) | intro (zs : List _) | intro (hzs : _))))
          refine ExL.val (by rfl) (by rfl) (by rfl) (vl_indexC (by rfl) (by rfl) (by rfl) (by rfl) (by rfl) (by omega) (by omega)) ?_
          rw [show (⟨e.c.a, e.c.b, e.c.c, e.c.d, e.c.e⟩ : Clk).get (i : Int).toNat = e.c.get i from rfl]
          (refine rn ?_; (repeat (first | intro (g : Nat) | intro (v : Value) | intro (o : Value.oneCell' _ = true) | intro (cs : List Value) | intro (hcs : _ = List.set _ _ _) | intro (zs : List _) | intro (hzs : _))))
          refine st_callIs [] (by rfl) Try.call44 (by rfl) (by rfl) (within_F (e.c.get i) 0 1048576 _) ?_
          rintro _ _ ⟨rfl, rfl⟩
          by_cases hci : 0 ≤ e.c.get i ∧ e.c.get i ≤ 1048576
          · have hall2 : ∀ j, j < i + 1 → 0 ≤ e.c.get j ∧ e.c.get j ≤ 1048576 := fun j hj => by
              by_cases hji : j = i
              · subst hji; exact hci
              · exact hall j (by omega)
            clear hall
            rw [decide_eq_true hci]
            (refine rn ?_; (repeat (first | intro (g : Nat) | intro (v : Value) | intro (o : Value.oneCell' _ = true) | intro (cs : List Value) | intro (hcs : _ = List.set _ _ _) | intro (zs : List _) | intro (hzs : _))))
            exact rnd_n ⟨5 - (i + 1), _, by omega, rB, ⟨i + 1, by omega, by omega, lcons (vint (by omega)) rfl, hall2⟩, rfl⟩
          · rw [decide_eq_false hci]
            clear hall
            (refine rn ?_; (repeat (first | intro (g : Nat) | intro (v : Value) | intro (o : Value.oneCell' _ = true) | intro (cs : List Value) | intro (hcs : _ = List.set _ _ _) | intro (zs : List _) | intro (hzs : _))))
            (first | refine fin_ret rS ?_ | refine fin_norm rS ?_)
            exact ⟨_, rB, hno (hno2 hci), rfl⟩
        · have hr5 : e.r.toNat < 5 := by omega
          have e1 : [e.c.a, e.c.b, e.c.c, e.c.d, e.c.e, e.h, e.ed.kind].getD e.r.toNat 0 = e.c.get e.r.toNat := getD7 e.c _ _ hr5
          by_cases ho : e.c.get e.r.toNat = e.n - 1
          · (refine rn ?_; (repeat (first | intro (g : Nat) | intro (v : Value) | intro (o : Value.oneCell' _ = true) | intro (cs : List Value) | intro (hcs : _ = List.set _ _ _) | intro (zs : List _) | intro (hzs : _))))
            (refine Ex.mixA 9 _ rfl (by kernel_rfl) (Fac.refl _) ?_; (refine mn ?_; (repeat (first | intro (g : Nat) | intro (v : Value) | intro (o : Value.oneCell' _ = true) | intro (cs : List Value) | intro (hcs : _ = List.set _ _ _) | intro (zs : List _) | intro (hzs : _)))))
            (refine rn ?_; (repeat (first | intro (g : Nat) | intro (v : Value) | intro (o : Value.oneCell' _ = true) | intro (cs : List Value) | intro (hcs : _ = List.set _ _ _) | intro (zs : List _) | intro (hzs : _))))
            refine st_callIs [] (by rfl) Try.call45 (by rfl) (by rfl) (textEdit_fn e.ed _ hk hv) ?_
            rintro _ _ ⟨rfl, rfl⟩
            (refine rn ?_; (repeat (first | intro (g : Nat) | intro (v : Value) | intro (o : Value.oneCell' _ = true) | intro (cs : List Value) | intro (hcs : _ = List.set _ _ _) | intro (zs : List _) | intro (hzs : _))))
            (first | refine fin_ret rS ?_ | refine fin_norm rS ?_)
            exact ⟨_, rB, ⟨e.ed.err, ⟨fun h => ⟨⟨hr.1, by omega⟩, hn, hh, fun j hj => hall j (by omega), ho, h⟩, fun k => k.ed⟩, rfl⟩, rfl⟩
          · have hm : ¬ e.May := fun k => ho k.own
            (refine rn ?_; (repeat (first | intro (g : Nat) | intro (v : Value) | intro (o : Value.oneCell' _ = true) | intro (cs : List Value) | intro (hcs : _ = List.set _ _ _) | intro (zs : List _) | intro (hzs : _))))
            (refine Ex.mixA 9 _ rfl (by kernel_rfl) (Fac.refl _) ?_; (refine mn ?_; (repeat (first | intro (g : Nat) | intro (v : Value) | intro (o : Value.oneCell' _ = true) | intro (cs : List Value) | intro (hcs : _ = List.set _ _ _) | intro (zs : List _) | intro (hzs : _)))))
            (refine rn ?_; (repeat (first | intro (g : Nat) | intro (v : Value) | intro (o : Value.oneCell' _ = true) | intro (cs : List Value) | intro (hcs : _ = List.set _ _ _) | intro (zs : List _) | intro (hzs : _))))
            (first | refine fin_ret rS ?_ | refine fin_norm rS ?_)
            exact ⟨_, rB, hno hm, rfl⟩
      · rw [decide_eq_false hh]
        (refine rn ?_; (repeat (first | intro (g : Nat) | intro (v : Value) | intro (o : Value.oneCell' _ = true) | intro (cs : List Value) | intro (hcs : _ = List.set _ _ _) | intro (zs : List _) | intro (hzs : _))))
        (first | refine fin_ret rS ?_ | refine fin_norm rS ?_)
        exact ⟨_, rB, hno fun k => hh k.h, rfl⟩
    · rw [decide_eq_false hn]
      (refine rn ?_; (repeat (first | intro (g : Nat) | intro (v : Value) | intro (o : Value.oneCell' _ = true) | intro (cs : List Value) | intro (hcs : _ = List.set _ _ _) | intro (zs : List _) | intro (hzs : _))))
      (first | refine fin_ret rS ?_ | refine fin_norm rS ?_)
      exact ⟨_, rB, hno fun k => hn k.n, rfl⟩
  · rw [decide_eq_false hr]
    (refine rn ?_; (repeat (first | intro (g : Nat) | intro (v : Value) | intro (o : Value.oneCell' _ = true) | intro (cs : List Value) | intro (hcs : _ = List.set _ _ _) | intro (zs : List _) | intro (hzs : _))))
    (first | refine fin_ret rS ?_ | refine fin_norm rS ?_)
    exact ⟨_, rB, hno fun k => hr ⟨k.r.1, by have := k.r.2; omega⟩, rfl⟩
set_option maxHeartbeats 4000000 in
theorem pheight_F (v0 : Value) (out : List Ev) (c : Clk) (M : List Assn) (hr : RdT M v0 out) (hl : out.length ≤ 1000000) (hh : ∀ e ∈ out, I64 e.h) : Fn Try.prog 18 #[v0, c.val] M fun v L' => v = .int .i64 (IntKind.i64.wrap (heightP out c)) ∧ L' = M := by
  refine Fn.of_ex Try.func18 rfl Try.ntmps18 rfl ?_
  (refine rn ?_; (repeat (first | intro (g : Nat) | intro (v : Value) | intro (o : Value.oneCell' _ = true) | intro (cs : List Value) | intro (hcs : _ = List.set _ _ _) | intro (zs : List _) | intro (hzs : _))))
  revert g
  intro g3
  refine Ex.loop [5, 6, 11] (fun m vs L' => ∃ (i : Nat), i ≤ out.length ∧ m = out.length - i ∧ vs = [.int .i64 ((out.take i).foldl (heightS c) (0, false)).1, .bool ((out.take i).foldl (heightS c) (0, false)).2, .int .i64 i] ∧ L' = Blk g3 29 (Rep.cells c) :: M) out.length ⟨0, by omega, by omega, rfl, rfl⟩ ?_
  rintro m vs g1 L' ⟨i, hi, rfl, rfl, rfl⟩
  refine Ex.keep [3, 5, 6, 9, 10, 11] rG (fun gk => ?_)
  by_cases hlt : i < out.length
  · have hst : (out.take (i + 1)).foldl (heightS c) (0, false) = heightS c ((out.take i).foldl (heightS c) (0, false)) (out[i]'hlt) := by
      rw [List.take_succ_eq_append_getElem hlt, List.foldl_append]; rfl
    have hnx : ∀ X : Int × Bool, (out.take (i + 1)).foldl (heightS c) (0, false) = X → ∃ (j : Nat), j ≤ out.length ∧ out.length - (i + 1) = out.length - j ∧ [Value.int .i64 X.1, .bool X.2, .int .i64 (i + 1)] = [.int .i64 ((out.take j).foldl (heightS c) (0, false)).1, .bool ((out.take j).foldl (heightS c) (0, false)).2, .int .i64 j] ∧ Blk g3 29 (Rep.cells c) :: M = Blk g3 29 (Rep.cells c) :: M := fun X hX => ⟨i + 1, by omega, rfl, by rw [hX]; rfl, rfl⟩
    generalize (out.take i).foldl (heightS c) (0, false) = s at hst ⊢
    obtain ⟨h, a⟩ := s
    unfold heightS at hst
    simp only at hst
    (repeat' (first | refine ExL.val (by rfl) (by rfl) (by rfl) rV ?_ | (first | refine Ex.seq ?_ | refine Ex.region ?_ | refine ExL.nil ?_ | refine thn_n ?_ | refine Ex.cond_t (by rfl) ?_ | refine Ex.cond_f (by rfl) ?_ | refine Ex.skip ?_ | refine Ex.block ?_ | refine Ex.exit ?_ | refine Ex.ret ?_ | refine thn_exit ?_ | refine thn_ret ?_ | refine inb_n ?_ | refine inb_hit (by rfl) ?_ | refine inb_miss (by rfl) ?_ | refine inb_ret ?_ | refine rnd_exit ?_ | refine rnd_ret ?_ | refine meet_ret ?_ | refine meet_exit ?_) | (apply exlGuard; first | refine ExL.gskip (by rfl) (by rfl) (by rfl) (by rfl) (by rfl) (by rfl) ?_ | refine ExL.gtake (by rfl) (by rfl) (by rfl) (by rfl) ?_ | refine ExL.gskipU (by rfl) (by rfl) (by rfl) (by rfl) ?_ | (refine ExL.gsplit (by rfl) (by rfl) (by rfl) (fun h => ?_) (fun h => ?_) <;> try (exfalso; omega))) | (first | refine st_new_ (by rfl) rE (fun g => ?_) | refine st_boxA (by rfl) (by rfl) (fun g => ?_) | refine st_box1 (by rfl) rE rN (fun g => ?_) | (apply exlStore; first | refine st_store1_ _ (by rfl) rK rE rN (by rfl) (by rfl) rE rE ?_ | refine st_storeW_ _ (by rfl) rK (by rfl) rC (by rfl) (by rfl) (by rfl) rE ?_ | refine st_storeR _ (by rfl) rK (by rfl) rE (by rfl) (by rfl) rE ?_ | refine st_storeA_ _ (by rfl) rK (by rfl) rC (by rfl) (by rfl) (by rfl) rE rE ?_ | refine st_storeB _ (by rfl) (by rfl) rO rO rK (by rfl) rO ?_ | refine st_storeG _ (by rfl) rK rE rN (by rfl) rO (fun cs hcs => ?_)) | refine st_slice0 (by rfl) (by rfl) (by rfl) (by rfl) (fun g => ?_) | refine st_slice1T (by rfl) (by rfl) (by rfl) (by rfl) (fun g => ?_) | refine st_makeT (by rfl) (by rfl) (by rfl) (by rfl) rE (by rfl) rO rO (fun v o => ?_) | (apply exlCopy; first | refine st_copyW _ (by rfl) rE rK rE rD (by rfl) rE (by rfl) (fun zs hzs => ?_) | refine st_copyS _ (by rfl) (by rfl) rK rE rD (by rfl) rE (by rfl) rO rO (fun zs hzs => ?_)) | refine st_sliceB (by rfl) (by rfl) (by rfl) (by rfl) (by rfl) (by rfl) (by rfl) rL rE rE (by rfl) (fun g => ?_) | refine st_slice1I (by rfl) (by rfl) (by rfl) (by rfl) (by rfl) (by rfl) (fun g => ?_) | refine st_slice1B (by rfl) (by rfl) (by rfl) (by rfl) (by rfl) (by rfl) rO rO (fun g => ?_) | refine st_slice1S (by rfl) (by rfl) (by rfl) (by rfl) (by rfl) (by rfl) (fun g => ?_) | refine st_slice2B (by rfl) (by rfl) (by rfl) (by rfl) (by rfl) (by rfl) (by rfl) rO rO rO rO (fun g => ?_) | (apply exlConv; first | refine st_bytes (by rfl) (by rfl) (by rfl) (by rfl) (by rfl) rO (fun v o => ?_) | refine st_mark _ (by rfl) (by rfl) rK (by rfl) (by rfl) (by rfl) ?_) | refine st_clear _ (0 : UInt8) (by rfl) rK (by rfl) (by rfl) (by rfl) (by rfl) (by rfl) rO ?_ | refine st_clearT _ (by rfl) rK rO (by rfl) (by rfl) rO rE ?_ | (apply exlAppend; first | refine st_app0 (by rfl) (by rfl) rE rD (by rfl) rE (by rfl) rE (by rfl) (by rfl) (by rfl) rO (fun v o => ?_) | refine st_app _ (by rfl) rE rK rE rD (by rfl) rE (by rfl) rE (by rfl) (by rfl) (by rfl) rO (fun v o => ?_) | refine st_shift _ (by rfl) (by rfl) (by rfl) rK rO (by rfl) (by rfl) (by rfl) rO rO rE ?_)) | (refine Ex.cond_d (by rfl) (fun h => ?_) (fun h => ?_) <;> try (exfalso; omega))))
    refine st_callIs [] (by rfl) Try.call30 (by rfl) (by rfl) (has_F c (out[i]'hlt).r (out[i]'hlt).n _) ?_
    rintro _ _ ⟨rfl, rfl⟩
    cases hb : c.has (out[i]'hlt).r (out[i]'hlt).n
    · rw [if_neg (by rw [hb]; simp)] at hst
      have hn := hnx _ hst
      clear hnx hst
      (refine rn ?_; (repeat (first | intro (g : Nat) | intro (v : Value) | intro (o : Value.oneCell' _ = true) | intro (cs : List Value) | intro (hcs : _ = List.set _ _ _) | intro (zs : List _) | intro (hzs : _))))
      exact rnd_n ⟨out.length - (i + 1), _, by omega, rB, hn⟩
    · cases a
      · rw [if_pos ⟨hb, .inl rfl⟩] at hst
        have hn := hnx _ hst
        clear hnx hst
        (refine rn ?_; (repeat (first | intro (g : Nat) | intro (v : Value) | intro (o : Value.oneCell' _ = true) | intro (cs : List Value) | intro (hcs : _ = List.set _ _ _) | intro (zs : List _) | intro (hzs : _))))
        exact rnd_n ⟨out.length - (i + 1), _, by omega, rB, hn⟩
      · by_cases hgt : h < (out[i]'hlt).h
        · rw [if_pos ⟨hb, .inr hgt⟩] at hst
          have hn := hnx _ hst
          clear hnx hst
          (refine rn ?_; (repeat (first | intro (g : Nat) | intro (v : Value) | intro (o : Value.oneCell' _ = true) | intro (cs : List Value) | intro (hcs : _ = List.set _ _ _) | intro (zs : List _) | intro (hzs : _))))
          exact rnd_n ⟨out.length - (i + 1), _, by omega, rB, hn⟩
        · rw [if_neg (by rintro ⟨_, h1 | h1⟩; cases h1; exact hgt h1)] at hst
          have hn := hnx _ hst
          clear hnx hst
          (refine rn ?_; (repeat (first | intro (g : Nat) | intro (v : Value) | intro (o : Value.oneCell' _ = true) | intro (cs : List Value) | intro (hcs : _ = List.set _ _ _) | intro (zs : List _) | intro (hzs : _))))
          exact rnd_n ⟨out.length - (i + 1), _, by omega, rB, hn⟩
  · obtain rfl : i = out.length := by omega
    rw [List.take_length]
    have hb := height_rng c hh
    unfold heightP
    have hw := wrap_in (x := (out.foldl (heightS c) (0, false)).1 + 1)
    unfold I64 at hb hw
    by_cases hmx : (out.foldl (heightS c) (0, false)).1 = 9223372036854775807
    · clear hw
      (refine rn ?_; (repeat (first | intro (g : Nat) | intro (v : Value) | intro (o : Value.oneCell' _ = true) | intro (cs : List Value) | intro (hcs : _ = List.set _ _ _) | intro (zs : List _) | intro (hzs : _))))
      (first | refine fin_ret rS ?_ | refine fin_norm rS ?_)
      exact ⟨_, rB, rfl, rfl⟩
    · rw [hw (by omega)]
      clear hw
      (refine rn ?_; (repeat (first | intro (g : Nat) | intro (v : Value) | intro (o : Value.oneCell' _ = true) | intro (cs : List Value) | intro (hcs : _ = List.set _ _ _) | intro (zs : List _) | intro (hzs : _))))
      (first | refine fin_ret rS ?_ | refine fin_norm rS ?_)
      exact ⟨_, rB, rfl, rfl⟩
end Go.Proofs.Ytcclbplccnaonaa
/- Package past, walked: Right. No condition. -/
namespace Go.Proofs.Ytcclbplccnaonaa
open Go.RowKit
set_option linter.unusedSimpArgs false
set_option linter.unusedVariables false
/-- What the code asks of one event. -/
def RightE (l : List Ev) (e : Ev) : Prop := e.c.le (clockP l) = true ∧ e.h = heightP l e.c ∧ ∀ a ∈ l, e.c.has a.r a.n = true → a.c.le e.c = true
theorem take_all {l : List Ev} {P : Ev → Prop} {i : Nat} (h : i < l.length) (hp : ∀ e ∈ l.take i, P e) (hi : P (l[i]'h)) : ∀ e ∈ l.take (i + 1), P e := fun e he => by
  rw [List.take_succ_eq_append_getElem h] at he
  rcases List.mem_append.1 he with he | he
  · exact hp e he
  · simp only [List.mem_singleton] at he; subst he; exact hi
theorem dst_take {l : List Ev} {i : Nat} (h : i < l.length) (hd : Dst (l.take i)) (hn : (l[i]'h).mk_ ∉ marks (l.take i)) : Dst (l.take (i + 1)) := by
  rw [List.take_succ_eq_append_getElem h]
  refine List.pairwise_append.2 ⟨hd, by simp, fun a ha b hb hab => ?_⟩
  simp only [List.mem_singleton] at hb
  subst hb
  exact hn (mem_marks.2 ⟨a, ha, hab⟩)
theorem not_dst {l : List Ev} {i : Nat} (h : i < l.length) (hn : (l[i]'h).mk_ ∈ marks (l.take i)) : ¬ Dst l := fun hd => by
  obtain ⟨a, ha, e⟩ := mem_marks.1 hn
  obtain ⟨j, hj, rfl⟩ := List.getElem_of_mem ha
  rw [List.length_take] at hj
  rw [List.getElem_take] at e
  have := hd.inj (show j < l.length by omega) h e
  omega
theorem no_right {l : List Ev} (h : ¬ RightP l) : ∃ b : Bool, (b = true ↔ RightP l) ∧ Value.bool false = .bool b := ⟨false, ⟨fun x => absurd x (by decide), fun k => (h k).elim⟩, rfl⟩
set_option maxRecDepth 20000 attribute [local irreducible] Ex ExL Fn thn inb rnd fin meet Tab Mix mxEnd Val Sats RdT Rd RowT Row Blk Sub Fac ResV RVal Evs subs subs3 Hid Capd
set_option maxHeartbeats 8000000 in
theorem right_F (v0 : Value) (l : List Ev) (M : List Assn) (hr : RdT M v0 l) (hl : l.length ≤ 1000000) (hh : ∀ e ∈ l, I64 e.h) (hs : ∀ e ∈ l, e.ed.key.length ≤ 9223372036854775807 ∧ e.ed.value.length ≤ 9223372036854775807) : Fn Try.prog 14 #[v0] M fun v L' => (∃ b : Bool, (b = true ↔ RightP l) ∧ v = .bool b) ∧ L' = M := by
  refine Fn.of_ex Try.func14 rfl Try.ntmps14 rfl ?_
  (refine rn ?_; (repeat (first | intro (g : Nat) | intro (v : Value) | intro (o : Value.oneCell' _ = true) | intro (cs : List Value) | intro (hcs : _ = List.set _ _ _) | intro (zs : List _) | intro (hzs : _))))
  refine st_makeMapV (κ := Mk) aggV (by rfl) (fun g0 => ?_)
  (refine rn ?_; (repeat (first | intro (g : Nat) | intro (v : Value) | intro (o : Value.oneCell' _ = true) | intro (cs : List Value) | intro (hcs : _ = List.set _ _ _) | intro (zs : List _) | intro (hzs : _))))
  refine Ex.loop [14] (fun m vs L' => ∃ (i : Nat) (ks : List Mk), i ≤ l.length ∧ m = l.length - i ∧ vs = [.int .i64 i] ∧ (∀ k, k ∈ ks ↔ k ∈ marks (l.take i)) ∧ (∀ e ∈ l.take i, e.May) ∧ Dst (l.take i) ∧ L' = MS g0 ks :: M) l.length ⟨0, [], by omega, by omega, rfl, by simp [marks], by simp, List.Pairwise.nil, rfl⟩ ?_
  rintro m vs g1 L' ⟨i, ks, hi, rfl, rfl, hks, hmay, hdst, rfl⟩
  refine Ex.keep [0, 3, 12, 13, 14] rG (fun gk => ?_)
  by_cases hlt : i < l.length
  · have hk2 := marks_take hlt hks
    have hse := hs _ (List.getElem_mem hlt)
    (refine rn ?_; (repeat (first | intro (g : Nat) | intro (v : Value) | intro (o : Value.oneCell' _ = true) | intro (cs : List Value) | intro (hcs : _ = List.set _ _ _) | intro (zs : List _) | intro (hzs : _))))
    refine st_callIs [] (by rfl) Try.call31 (by rfl) (by rfl) (evMay_F (l[i]'hlt) _ hse.1 hse.2) ?_
    rintro _ _ ⟨⟨x, hx, rfl⟩, rfl⟩
    by_cases hx0 : x = 0
    · subst hx0
      have hmi := hx.1 rfl
      (refine rn ?_; (repeat (first | intro (g : Nat) | intro (v : Value) | intro (o : Value.oneCell' _ = true) | intro (cs : List Value) | intro (hcs : _ = List.set _ _ _) | intro (zs : List _) | intro (hzs : _))))
      refine st_callIs [] (by rfl) Try.call32 (by rfl) (by rfl) (pmark_F (l[i]'hlt) _) ?_
      rintro _ _ ⟨rfl, rfl⟩
      (apply exlGuard; first | refine ExL.gskip (by rfl) (by rfl) (by rfl) (by rfl) (by rfl) (by rfl) ?_ | refine ExL.gtake (by rfl) (by rfl) (by rfl) (by rfl) ?_ | refine ExL.gskipU (by rfl) (by rfl) (by rfl) (by rfl) ?_ | (refine ExL.gsplit (by rfl) (by rfl) (by rfl) (fun h => ?_) (fun h => ?_) <;> try (exfalso; omega)))
      refine ExL.val (by rfl) (by rfl) (by rfl) (vl_lookup1 1 (kt := 60) (k := (l[i]'hlt).mk_) (z := .bool false) (by rfl) (by rfl) (by rfl) (by rfl) (by rfl)) ?_
      rw [setM_look]
      by_cases hin : (l[i]'hlt).mk_ ∈ ks
      · have hno : ¬ RightP l := fun h => not_dst hlt ((hks _).1 hin) h.2.1
        rw [decide_eq_true hin]
        clear hmay hdst hks hk2 hx
        (refine rn ?_; (repeat (first | intro (g : Nat) | intro (v : Value) | intro (o : Value.oneCell' _ = true) | intro (cs : List Value) | intro (hcs : _ = List.set _ _ _) | intro (zs : List _) | intro (hzs : _))))
        (first | refine fin_ret rS ?_ | refine fin_norm rS ?_)
        exact ⟨_, rB, no_right hno, rfl⟩
      · have hm2 := take_all hlt hmay hmi
        have hd2 := dst_take hlt hdst (fun h => hin ((hks _).2 h))
        rw [decide_eq_false hin]
        clear hmay hdst hx
        (refine rn ?_; (repeat (first | intro (g : Nat) | intro (v : Value) | intro (o : Value.oneCell' _ = true) | intro (cs : List Value) | intro (hcs : _ = List.set _ _ _) | intro (zs : List _) | intro (hzs : _))))
        refine st_callIs [] (by rfl) Try.call32 (by rfl) (by rfl) (pmark_F (l[i]'hlt) _) ?_
        rintro _ _ ⟨rfl, rfl⟩
        refine st_mapPut 1 (kt := 60) (kv := aggV) rfl (k := (l[i]'hlt).mk_) (by rfl) (by rfl) (by rfl) (by rfl) (by rfl) rE ?_
        rw [setM_put]
        (refine rn ?_; (repeat (first | intro (g : Nat) | intro (v : Value) | intro (o : Value.oneCell' _ = true) | intro (cs : List Value) | intro (hcs : _ = List.set _ _ _) | intro (zs : List _) | intro (hzs : _))))
        exact rnd_n ⟨l.length - (i + 1), _, by omega, rB, i + 1, _, by omega, rfl, lcons (vint (by omega)) rfl, hk2, hm2, hd2, rfl⟩
    · have hno : ¬ RightP l := fun h => hx0 (hx.2 (h.1 _ (List.getElem_mem hlt)))
      clear hmay hdst hks hk2 hx
      (refine rn ?_; (repeat (first | intro (g : Nat) | intro (v : Value) | intro (o : Value.oneCell' _ = true) | intro (cs : List Value) | intro (hcs : _ = List.set _ _ _) | intro (zs : List _) | intro (hzs : _))))
      (first | refine fin_ret rS ?_ | refine fin_norm rS ?_)
      exact ⟨_, rB, no_right hno, rfl⟩
  · obtain rfl : i = l.length := by omega
    rw [List.take_length] at hks hmay hdst
    have hhb : ∀ c, IntKind.i64.wrap (heightP l c) = heightP l c := fun c => by
      have hb := height_bd (out := l) (c := c) (m := 16777216) (fun e he => (hmay e he).h) (by omega)
      unfold heightP
      refine wrap_in ?_
      unfold I64
      omega
    (refine rn ?_; (repeat (first | intro (g : Nat) | intro (v : Value) | intro (o : Value.oneCell' _ = true) | intro (cs : List Value) | intro (hcs : _ = List.set _ _ _) | intro (zs : List _) | intro (hzs : _))))
    refine st_callIs [] (by rfl) Try.call33 (by rfl) (by rfl) (reach_F g0 ks l Clk.zero _ hks hl (fun i _ => by rw [zero_get]; omega)) ?_
    rintro _ _ ⟨rfl, rfl⟩
    (refine rn ?_; (repeat (first | intro (g : Nat) | intro (v : Value) | intro (o : Value.oneCell' _ = true) | intro (cs : List Value) | intro (hcs : _ = List.set _ _ _) | intro (zs : List _) | intro (hzs : _))))
    obtain ⟨C, hC⟩ : ∃ C, C = clockP l := ⟨_, rfl⟩
    rw [show reachC l Clk.zero = C from hC.symm]
    revert g
    intro g6
    refine Ex.sub (L' := Blk g6 29 (Rep.cells C) :: M) ?_ rB
    refine Ex.loop [36] (fun m vs L' => ∃ (i : Nat), i ≤ l.length ∧ m = l.length - i ∧ vs = [.int .i64 i] ∧ (∀ e ∈ l.take i, RightE l e) ∧ L' = Blk g6 29 (Rep.cells C) :: M) l.length ⟨0, by omega, by omega, rfl, by simp, rfl⟩ ?_
    rintro m vs g2 L' ⟨i, hi, rfl, rfl, hall, rfl⟩
    refine Ex.keep [0, 6, 34, 35, 36] rG (fun gk => ?_)
    by_cases hlt2 : i < l.length
    · have hle0 : (l[i]'hlt2).c.le C = false → ¬ RightP l := fun h k => by
        have := (k.2.2 _ (List.getElem_mem hlt2)).1
        rw [← hC, h] at this; cases this
      have hh0 : ¬ (l[i]'hlt2).h = heightP l (l[i]'hlt2).c → ¬ RightP l := fun h k => h (k.2.2 _ (List.getElem_mem hlt2)).2.1
      have hhh := hhb (l[i]'hlt2).c
      cases hle : (l[i]'hlt2).c.le C
      · have hno := hle0 hle
        clear hle0 hh0 hall hmay hdst hks hhb hhh
        (refine rn ?_; (repeat (first | intro (g : Nat) | intro (v : Value) | intro (o : Value.oneCell' _ = true) | intro (cs : List Value) | intro (hcs : _ = List.set _ _ _) | intro (zs : List _) | intro (hzs : _))))
        (refine Ex.mixA 14 _ rfl (by kernel_rfl) (Fac.refl _) ?_; (refine mn ?_; (repeat (first | intro (g : Nat) | intro (v : Value) | intro (o : Value.oneCell' _ = true) | intro (cs : List Value) | intro (hcs : _ = List.set _ _ _) | intro (zs : List _) | intro (hzs : _)))))
        (refine mx_act (by rfl) (by rfl) (by rfl) ?_; refine st_callIs [] (by rfl) Try.call34 rE (by rfl) (le_F (l[i]'hlt2).c C _) ?_)
        rintro _ _ ⟨rfl, rfl⟩
        rw [hle]
        (refine ExL.nil ?_; refine mxEnd_n rF ?_; (refine mn ?_; (repeat (first | intro (g : Nat) | intro (v : Value) | intro (o : Value.oneCell' _ = true) | intro (cs : List Value) | intro (hcs : _ = List.set _ _ _) | intro (zs : List _) | intro (hzs : _)))))
        (refine rn ?_; (repeat (first | intro (g : Nat) | intro (v : Value) | intro (o : Value.oneCell' _ = true) | intro (cs : List Value) | intro (hcs : _ = List.set _ _ _) | intro (zs : List _) | intro (hzs : _))))
        (first | refine fin_ret rS ?_ | refine fin_norm rS ?_)
        exact ⟨_, rB, no_right hno, rfl⟩
      · (refine rn ?_; (repeat (first | intro (g : Nat) | intro (v : Value) | intro (o : Value.oneCell' _ = true) | intro (cs : List Value) | intro (hcs : _ = List.set _ _ _) | intro (zs : List _) | intro (hzs : _))))
        (refine Ex.mixA 14 _ rfl (by kernel_rfl) (Fac.refl _) ?_; (refine mn ?_; (repeat (first | intro (g : Nat) | intro (v : Value) | intro (o : Value.oneCell' _ = true) | intro (cs : List Value) | intro (hcs : _ = List.set _ _ _) | intro (zs : List _) | intro (hzs : _)))))
        (refine mx_act (by rfl) (by rfl) (by rfl) ?_; refine st_callIs [] (by rfl) Try.call34 rE (by rfl) (le_F (l[i]'hlt2).c C _) ?_)
        rintro _ _ ⟨rfl, rfl⟩
        rw [hle]
        (refine ExL.nil ?_; refine mxEnd_n rF ?_; (refine mn ?_; (repeat (first | intro (g : Nat) | intro (v : Value) | intro (o : Value.oneCell' _ = true) | intro (cs : List Value) | intro (hcs : _ = List.set _ _ _) | intro (zs : List _) | intro (hzs : _)))))
        (refine mx_act (by rfl) (by rfl) (by rfl) ?_; refine st_callIs [] (by rfl) Try.call18 rE (by rfl) (pheight_F v0 l (l[i]'hlt2).c _ rD hl hh) ?_)
        rintro _ _ ⟨rfl, rfl⟩
        rw [hhh]
        by_cases hhe : (l[i]'hlt2).h = heightP l (l[i]'hlt2).c
        · clear hle0 hh0 hmay hdst hks hhb hhh
          (refine ExL.nil ?_; refine mxEnd_n rF ?_; (refine mn ?_; (repeat (first | intro (g : Nat) | intro (v : Value) | intro (o : Value.oneCell' _ = true) | intro (cs : List Value) | intro (hcs : _ = List.set _ _ _) | intro (zs : List _) | intro (hzs : _)))))
          (refine rn ?_; (repeat (first | intro (g : Nat) | intro (v : Value) | intro (o : Value.oneCell' _ = true) | intro (cs : List Value) | intro (hcs : _ = List.set _ _ _) | intro (zs : List _) | intro (hzs : _))))
          refine Ex.loop [56] (fun m vs L' => ∃ (k : Nat), k ≤ l.length ∧ m = l.length - k ∧ vs = [.int .i64 k] ∧ (∀ a ∈ l.take k, (l[i]'hlt2).c.has a.r a.n = true → a.c.le (l[i]'hlt2).c = true) ∧ L' = Blk g 31 (Rep.cells (l[i]'hlt2)) :: Blk g6 29 (Rep.cells C) :: M) l.length ⟨0, by omega, by omega, rfl, by simp, rfl⟩ ?_
          rintro m vs g3 L' ⟨k, hk, rfl, rfl, hall2, rfl⟩
          refine Ex.keep [0, 6, 8, 34, 35, 36, 54, 55, 56] rG (fun gk => ?_)
          by_cases hlt3 : k < l.length
          · have hbad : (l[i]'hlt2).c.has (l[k]'hlt3).r (l[k]'hlt3).n = true → (l[k]'hlt3).c.le (l[i]'hlt2).c = false → ¬ RightP l := fun h1 h2 k => by
              have := (k.2.2 _ (List.getElem_mem hlt2)).2.2 _ (List.getElem_mem hlt3) h1
              rw [h2] at this; cases this
            cases hbl : (l[i]'hlt2).c.has (l[k]'hlt3).r (l[k]'hlt3).n
            · have hn2 := take_all hlt3 hall2 (fun h => by rw [hbl] at h; cases h)
              clear hall2 hall
              (refine rn ?_; (repeat (first | intro (g : Nat) | intro (v : Value) | intro (o : Value.oneCell' _ = true) | intro (cs : List Value) | intro (hcs : _ = List.set _ _ _) | intro (zs : List _) | intro (hzs : _))))
              refine st_callIs [] (by rfl) Try.call13 (by rfl) (by rfl) (below_F (l[k]'hlt3) (l[i]'hlt2) _) ?_
              rintro _ _ ⟨rfl, rfl⟩
              rw [hbl]
              (refine rn ?_; (repeat (first | intro (g : Nat) | intro (v : Value) | intro (o : Value.oneCell' _ = true) | intro (cs : List Value) | intro (hcs : _ = List.set _ _ _) | intro (zs : List _) | intro (hzs : _))))
              exact rnd_n ⟨l.length - (k + 1), _, by omega, rB, k + 1, by omega, rfl, lcons (vint (by omega)) rfl, hn2, rfl⟩
            · cases hce : (l[k]'hlt3).c.le (l[i]'hlt2).c
              · have hno := hbad hbl hce
                clear hall2 hall hbad
                (refine rn ?_; (repeat (first | intro (g : Nat) | intro (v : Value) | intro (o : Value.oneCell' _ = true) | intro (cs : List Value) | intro (hcs : _ = List.set _ _ _) | intro (zs : List _) | intro (hzs : _))))
                refine st_callIs [] (by rfl) Try.call13 (by rfl) (by rfl) (below_F (l[k]'hlt3) (l[i]'hlt2) _) ?_
                rintro _ _ ⟨rfl, rfl⟩
                rw [hbl]
                (refine rn ?_; (repeat (first | intro (g : Nat) | intro (v : Value) | intro (o : Value.oneCell' _ = true) | intro (cs : List Value) | intro (hcs : _ = List.set _ _ _) | intro (zs : List _) | intro (hzs : _))))
                refine st_callIs [] (by rfl) Try.call34 (by rfl) (by rfl) (le_F (l[k]'hlt3).c (l[i]'hlt2).c _) ?_
                rintro _ _ ⟨rfl, rfl⟩
                rw [hce]
                (refine rn ?_; (repeat (first | intro (g : Nat) | intro (v : Value) | intro (o : Value.oneCell' _ = true) | intro (cs : List Value) | intro (hcs : _ = List.set _ _ _) | intro (zs : List _) | intro (hzs : _))))
                (first | refine fin_ret rS ?_ | refine fin_norm rS ?_)
                exact ⟨_, rB, no_right hno, rfl⟩
              · have hn2 := take_all hlt3 hall2 (fun _ => hce)
                clear hall2 hall hbad
                (refine rn ?_; (repeat (first | intro (g : Nat) | intro (v : Value) | intro (o : Value.oneCell' _ = true) | intro (cs : List Value) | intro (hcs : _ = List.set _ _ _) | intro (zs : List _) | intro (hzs : _))))
                refine st_callIs [] (by rfl) Try.call13 (by rfl) (by rfl) (below_F (l[k]'hlt3) (l[i]'hlt2) _) ?_
                rintro _ _ ⟨rfl, rfl⟩
                rw [hbl]
                (refine rn ?_; (repeat (first | intro (g : Nat) | intro (v : Value) | intro (o : Value.oneCell' _ = true) | intro (cs : List Value) | intro (hcs : _ = List.set _ _ _) | intro (zs : List _) | intro (hzs : _))))
                refine st_callIs [] (by rfl) Try.call34 (by rfl) (by rfl) (le_F (l[k]'hlt3).c (l[i]'hlt2).c _) ?_
                rintro _ _ ⟨rfl, rfl⟩
                rw [hce]
                (refine rn ?_; (repeat (first | intro (g : Nat) | intro (v : Value) | intro (o : Value.oneCell' _ = true) | intro (cs : List Value) | intro (hcs : _ = List.set _ _ _) | intro (zs : List _) | intro (hzs : _))))
                exact rnd_n ⟨l.length - (k + 1), _, by omega, rB, k + 1, by omega, rfl, lcons (vint (by omega)) rfl, hn2, rfl⟩
          · obtain rfl : k = l.length := by omega
            rw [List.take_length] at hall2
            have hn := take_all hlt2 hall ⟨by rw [← hC]; exact hle, hhe, hall2⟩
            clear hall2 hall
            (refine rn ?_; (repeat (first | intro (g : Nat) | intro (v : Value) | intro (o : Value.oneCell' _ = true) | intro (cs : List Value) | intro (hcs : _ = List.set _ _ _) | intro (zs : List _) | intro (hzs : _))))
            exact rnd_n ⟨l.length - (i + 1), _, by omega, rB, i + 1, by omega, rfl, lcons (vint (by omega)) rfl, hn, rfl⟩
        · have hno := hh0 hhe
          clear hle0 hh0 hall hmay hdst hks hhb hhh
          (refine ExL.nil ?_; refine mxEnd_n rF ?_; (refine mn ?_; (repeat (first | intro (g : Nat) | intro (v : Value) | intro (o : Value.oneCell' _ = true) | intro (cs : List Value) | intro (hcs : _ = List.set _ _ _) | intro (zs : List _) | intro (hzs : _)))))
          (refine rn ?_; (repeat (first | intro (g : Nat) | intro (v : Value) | intro (o : Value.oneCell' _ = true) | intro (cs : List Value) | intro (hcs : _ = List.set _ _ _) | intro (zs : List _) | intro (hzs : _))))
          (first | refine fin_ret rS ?_ | refine fin_norm rS ?_)
          exact ⟨_, rB, no_right hno, rfl⟩
    · obtain rfl : i = l.length := by omega
      rw [List.take_length] at hall
      have hyes : RightP l := ⟨hmay, hdst, hall⟩
      clear hmay hdst hall hks hhb
      (refine rn ?_; (repeat (first | intro (g : Nat) | intro (v : Value) | intro (o : Value.oneCell' _ = true) | intro (cs : List Value) | intro (hcs : _ = List.set _ _ _) | intro (zs : List _) | intro (hzs : _))))
      (first | refine fin_ret rS ?_ | refine fin_norm rS ?_)
      exact ⟨_, rB, ⟨true, ⟨fun _ => hyes, fun _ => rfl⟩, rfl⟩, rfl⟩
end Go.Proofs.Ytcclbplccnaonaa
/- What may be done is short. No condition. -/
namespace Go.Proofs.Ytcclbplccnaonaa
open Go.RowKit
set_option linter.unusedSimpArgs false
set_option linter.unusedVariables false
theorem err_str {e : Ed} (h : e.err = 0) : e.key.length ≤ 8 ∧ e.value.length ≤ 12 := by
  unfold Ed.err at h
  split at h
  · cases h
  · split at h
    · rename_i h2
      exact absurd h h2
    · rename_i h2
      have h2 : keyE e.key = 0 := Classical.not_not.1 h2
      have hk : e.key.length ≤ 8 := by
        unfold keyE at h2
        split at h2
        · rename_i h3; exact h3.2.1
        · cases h2
      refine ⟨hk, ?_⟩
      split at h
      · split at h
        · cases h
        · split at h
          · cases h
          · rename_i h4
            have h4 := Classical.not_not.1 h4
            rw [h4]; simp
      · split at h
        · rename_i h4; exact absurd h h4
        · unfold valueE at h
          split at h
          · rename_i h5; exact h5.2
          · cases h
end Go.Proofs.Ytcclbplccnaonaa
/- kithlaw08: the document's example; a past that was made; walked. No condition. -/
namespace Go.Proofs.Ytcclbplccnaonaa
open Go.RowKit
set_option linter.unusedSimpArgs false
set_option linter.unusedVariables false
set_option maxRecDepth 20000
def one8 : Ev := ⟨0, 1, ⟨0, 0, 0, 0, 0⟩, 1, ⟨1, [99, 121], 0, []⟩⟩
theorem has_zero (r n : Int) : (⟨0, 0, 0, 0, 0⟩ : Clk).has r n = false := Clk.has_f fun ⟨_, _, h2, h3⟩ => by
  have := zero_get r.toNat
  unfold Clk.zero at this
  omega
theorem one8_good : GoodP [one8] := by
  have hno : ∀ r n, one8.c.has r n = false := fun r n => has_zero r n
  refine ⟨⟨fun e he => ?_, by simp [Dst], fun e he r n hh => ?_, fun e he => ?_⟩, ?_⟩
  · simp only [List.mem_singleton] at he
    subst he
    refine ⟨by decide, by decide, by decide, fun i hi => ?_, by decide, by decide⟩
    match i, hi with
    | 0, _ => decide
    | 1, _ => decide
    | 2, _ => decide
    | 3, _ => decide
    | 4, _ => decide
  · simp only [List.mem_singleton] at he
    subst he
    rw [hno] at hh; cases hh
  · simp only [List.mem_singleton] at he
    subst he
    exact ⟨fun a _ h => (by rw [hno] at h; cases h), .inl ⟨rfl, fun a _ => hno _ _⟩⟩
  · exact OrdQ.nil.snoc fun r n hh => by rw [hno] at hh; cases hh
theorem p_str {w : List Ev} (h : RightQ w) : ∀ e ∈ w, e.ed.key.length ≤ 9223372036854775807 ∧ e.ed.value.length ≤ 9223372036854775807 := fun e he => by
  have := err_str (h.may e he).ed
  omega
theorem p_h64 {w : List Ev} (h : RightQ w) : ∀ e ∈ w, I64 e.h := fun e he => by
  have := (h.may e he).h
  unfold I64
  omega
theorem p_n64 {w : List Ev} (h : RightQ w) : ∀ e ∈ w, I64 e.n := fun e he => by
  have := (h.may e he).n
  unfold I64
  omega
/-- A past, made of 40 choices at most. -/
theorem made40 {l : List Ch} (hok : ∀ c ∈ l, c.Ok) : ∃ l2, l2 = l.take 40 ∧ l2.length ≤ 40 ∧ (∀ c ∈ l2, c.Ok) ∧ ∃ w, w = makeP l2 ∧ w.length ≤ 40 ∧ GoodP w := by
  have hl2l : (l.take 40).length ≤ 40 := by rw [List.length_take]; omega
  have hl2o : ∀ c ∈ l.take 40, c.Ok := fun c hc => hok c (List.mem_of_mem_take hc)
  have hmk := makeS_ok _ hl2o
  refine ⟨_, rfl, hl2l, hl2o, _, rfl, ?_, makeP_good _ (by omega) hl2o⟩
  have := hmk.len; unfold makeP; omega
set_option maxRecDepth 20000 attribute [local irreducible] Ex ExL Fn thn inb rnd fin meet Tab Mix mxEnd Val Sats RdT Rd RowT Row Blk Sub Fac ResV RVal Evs subs subs3 Hid Capd
theorem right_yes (v0 : Value) (l : List Ev) (M : List Assn) (hr : RdT M v0 l) (hl : l.length ≤ 1000000) (h : RightQ l) : Fn Try.prog 14 #[v0] M fun v L' => v = .bool true ∧ L' = M := by
  refine (right_F v0 l M hr hl (p_h64 h) (p_str h)).mono ?_
  rintro v L' ⟨⟨b, hb, rfl⟩, rfl⟩
  exact ⟨by rw [hb.2 (RightQ.iff.2 h)], rfl⟩
theorem right_no (v0 : Value) (l : List Ev) (M : List Assn) (hr : RdT M v0 l) (hl : l.length ≤ 1000000) (h : ¬ RightQ l) (hh : ∀ e ∈ l, I64 e.h) (hs : ∀ e ∈ l, e.ed.key.length ≤ 9223372036854775807 ∧ e.ed.value.length ≤ 9223372036854775807) : Fn Try.prog 14 #[v0] M fun v L' => v = .bool false ∧ L' = M := by
  refine (right_F v0 l M hr hl hh hs).mono ?_
  rintro v L' ⟨⟨b, hb, rfl⟩, rfl⟩
  cases b
  · exact ⟨rfl, rfl⟩
  · exact absurd (RightQ.iff.1 (hb.1 rfl)) h
theorem ordered_yes (v0 : Value) (l : List Ev) (M : List Assn) (hr : RdT M v0 l) (hl : l.length ≤ 1000000) (h : OrdQ l) : Fn Try.prog 15 #[v0] M fun v L' => v = .bool true ∧ L' = M := by
  refine (ordered_F v0 l M hr hl).mono ?_
  rintro v L' ⟨⟨b, hb, rfl⟩, rfl⟩
  exact ⟨by rw [hb.2 (OrdQ.iff.2 h)], rfl⟩
theorem height_nil (c : Clk) (M : List Assn) : Fn Try.prog 18 #[.slice none 0 0, c.val] M fun v L' => v = .int .i64 1 ∧ L' = M := by
  have h := pheight_F (.slice none 0 0) [] c M (RdT.nil _) (by simp) (by simp)
  exact h
set_option maxHeartbeats 4000000 in
theorem shown8_fn (L : List Assn) : Fn Try.prog 10 #[] L fun v L' => v = .bool true ∧ L' = L := by
  refine Fn.of_ex Try.func10 rfl Try.ntmps10 rfl ?_
  (refine rn ?_; (repeat (first | intro (g : Nat) | intro (v : Value) | intro (o : Value.oneCell' _ = true) | intro (cs : List Value) | intro (hcs : _ = List.set _ _ _) | intro (zs : List _) | intro (hzs : _))))
  refine st_slice1T (a := one8) (by rfl) (by rfl) (by rfl) (by rfl) (fun g => ?_)
  (refine rn ?_; (repeat (first | intro (g : Nat) | intro (v : Value) | intro (o : Value.oneCell' _ = true) | intro (cs : List Value) | intro (hcs : _ = List.set _ _ _) | intro (zs : List _) | intro (hzs : _))))
  refine st_callIs [] (by rfl) Try.call14 (by rfl) (by rfl) (right_yes _ [one8] _ rD (by simp) one8_good.right) ?_
  rintro _ _ ⟨rfl, rfl⟩
  (refine rn ?_; (repeat (first | intro (g : Nat) | intro (v : Value) | intro (o : Value.oneCell' _ = true) | intro (cs : List Value) | intro (hcs : _ = List.set _ _ _) | intro (zs : List _) | intro (hzs : _))))
  refine st_callIs [] (by rfl) Try.call15 (by rfl) (by rfl) (ordered_yes _ [one8] _ rD (by simp) one8_good.ord) ?_
  rintro _ _ ⟨rfl, rfl⟩
  (refine rn ?_; (repeat (first | intro (g : Nat) | intro (v : Value) | intro (o : Value.oneCell' _ = true) | intro (cs : List Value) | intro (hcs : _ = List.set _ _ _) | intro (zs : List _) | intro (hzs : _))))
  refine st_callIs [] (by rfl) Try.call14 (by rfl) (by rfl) (right_yes _ [] _ (RdT.nil _) (by simp) RightQ.nil) ?_
  rintro _ _ ⟨rfl, rfl⟩
  (refine rn ?_; (repeat (first | intro (g : Nat) | intro (v : Value) | intro (o : Value.oneCell' _ = true) | intro (cs : List Value) | intro (hcs : _ = List.set _ _ _) | intro (zs : List _) | intro (hzs : _))))
  refine st_callIs [] (by rfl) Try.call15 (by rfl) (by rfl) (ordered_yes _ [] _ (RdT.nil _) (by simp) OrdQ.nil) ?_
  rintro _ _ ⟨rfl, rfl⟩
  (refine rn ?_; (repeat (first | intro (g : Nat) | intro (v : Value) | intro (o : Value.oneCell' _ = true) | intro (cs : List Value) | intro (hcs : _ = List.set _ _ _) | intro (zs : List _) | intro (hzs : _))))
  refine st_callIs [] (by rfl) Try.call18 (by rfl) (by rfl) (height_nil ⟨0, 0, 0, 0, 0⟩ _) ?_
  rintro _ _ ⟨rfl, rfl⟩
  (refine rn ?_; (repeat (first | intro (g : Nat) | intro (v : Value) | intro (o : Value.oneCell' _ = true) | intro (cs : List Value) | intro (hcs : _ = List.set _ _ _) | intro (zs : List _) | intro (hzs : _))))
  (first | refine fin_ret rS ?_ | refine fin_norm rS ?_)
  exact ⟨_, rB, rfl, rfl⟩
theorem short8_F (v0 : Value) (l : List Ch) (M : List Assn) (hr : RdT M v0 l) : Fn Try.prog 12 #[v0] M fun v L' => RdT M v (l.take 40) ∧ L' = M := by
  refine Fn.of_ex Try.func12 rfl Try.ntmps12 rfl ?_
  (refine rn ?_; (repeat (first | intro (g : Nat) | intro (v : Value) | intro (o : Value.oneCell' _ = true) | intro (cs : List Value) | intro (hcs : _ = List.set _ _ _) | intro (zs : List _) | intro (hzs : _))))
  (first | refine fin_ret rS ?_ | refine fin_norm rS ?_)
  refine ⟨_, rB, ?_, rfl⟩
  have h : l.take 40 = l.take (min (l.length : Int) 40).toNat := by
    by_cases hl : l.length ≤ 40
    · rw [List.take_of_length_le hl, List.take_of_length_le (by omega)]
    · congr 1; omega
  rw [h]
  exact rD
end Go.Proofs.Ytcclbplccnaonaa
/- kithlaw08.few, walked. No condition. -/
namespace Go.Proofs.Ytcclbplccnaonaa
open Go.RowKit
set_option linter.unusedSimpArgs false
set_option linter.unusedVariables false
/-- Clocks that few leaves. -/
def Few (e : Ev) : Prop := (-40 < e.c.a ∧ e.c.a < 40) ∧ (-40 < e.c.b ∧ e.c.b < 40) ∧ (-40 < e.c.c ∧ e.c.c < 40) ∧ (-40 < e.c.d ∧ e.c.d < 40) ∧ (-40 < e.c.e ∧ e.c.e < 40)
theorem tmod40 (x : Int) : -40 < x.tmod 40 ∧ x.tmod 40 < 40 := by
  rcases Int.le_total 0 x with h | h
  · rw [Int.tmod_eq_emod_of_nonneg h]; omega
  · have := Int.tmod_eq_emod (a := x) (b := 40)
    have h2 := Int.tmod_lt_of_pos x (show (0 : Int) < 40 by omega)
    have h3 := Int.neg_tmod x 40
    have h4 := Int.tmod_lt_of_pos (-x) (show (0 : Int) < 40 by omega)
    omega
theorem few_step {c : Clk} {k : Nat} (h : ∀ j, j < k → -40 < c.get j ∧ c.get j < 40) (hk : k < 5) : ∀ j, j < k + 1 → -40 < (c.set k ((c.get k).tmod 40)).get j ∧ (c.set k ((c.get k).tmod 40)).get j < 40 := fun j hj => by
  rw [Clk.get_set _ _ _ _ (by omega)]
  split
  · exact tmod40 _
  · exact h j (by omega)
set_option maxRecDepth 20000 attribute [local irreducible] Ex ExL Fn thn inb rnd fin meet Tab Mix mxEnd Val Sats RdT Rd RowT Row Blk Sub Fac ResV RVal Evs subs subs3 Hid Capd
set_option maxHeartbeats 4000000 in
theorem few8_F (v0 : Value) (l : List Ev) (M : List Assn) (hr : RdT M v0 l) : Fn Try.prog 19 #[v0] M fun v L' => v.oneCell' = true ∧ ∃ w : List Ev, w.length ≤ 30 ∧ (∀ e ∈ w, Few e ∧ ∃ e0 ∈ l, ∃ c, e = { e0 with c := c }) ∧ L' = Evs_ v w :: M := by
  refine Fn.of_ex Try.func19 rfl Try.ntmps19 rfl ?_
  (refine rn ?_; (repeat (first | intro (g : Nat) | intro (v : Value) | intro (o : Value.oneCell' _ = true) | intro (cs : List Value) | intro (hcs : _ = List.set _ _ _) | intro (zs : List _) | intro (hzs : _))))
  refine Ex.sub (L' := Evs_ (.slice (some ⟨g, 0, none⟩) 0 0) [] :: M) ?_ (Sub.empty (α := Ev) (some ⟨g, 0, none⟩) 31 _)
  refine Ex.loop [3, 4] (fun q vs L' => ∃ (i : Nat) (v3 : Value) (w : List Ev), i ≤ 30 ∧ q = 30 - i ∧ w.length ≤ i ∧ (∀ e ∈ w, Few e ∧ ∃ e0 ∈ l, ∃ c, e = { e0 with c := c }) ∧ v3.oneCell' = true ∧ vs = [v3, .int .i64 i] ∧ L' = Evs_ v3 w :: M) 30 ⟨0, _, [], by omega, rfl, by simp, by simp, rfl, rfl, rfl⟩ ?_
  rintro q vs g1 L' ⟨i, v3, w, hi, rfl, hwl, hw, o3, rfl, rfl⟩
  refine Ex.keep [0, 3, 4] rG (fun gk => ?_)
  by_cases hlt : i < l.length ∧ i < 30
  · obtain ⟨h1, h2⟩ := hlt
    obtain ⟨e, he⟩ : ∃ e, e = l[i]'h1 := ⟨_, rfl⟩
    have hel : e ∈ l := by rw [he]; exact List.getElem_mem _
    (refine rn ?_; (repeat (first | intro (g : Nat) | intro (v : Value) | intro (o : Value.oneCell' _ = true) | intro (cs : List Value) | intro (hcs : _ = List.set _ _ _) | intro (zs : List _) | intro (hzs : _))))
    rw [← he]
    revert g
    intro g5
    refine Ex.loop [6] (fun q vs L' => ∃ (k : Nat) (c : Clk), k ≤ 5 ∧ q = 5 - k ∧ (∀ j, j < k → -40 < c.get j ∧ c.get j < 40) ∧ vs = [.int .i64 k] ∧ L' = Blk g5 31 (Rep.cells ({ e with c := c } : Ev)) :: Evs_ v3 w :: M) 5 ⟨0, e.c, by omega, rfl, by omega, rfl, rfl⟩ ?_
    rintro q vs g2 L' ⟨k, c, hk, rfl, hc, rfl, rfl⟩
    refine Ex.keep [0, 3, 4, 5, 6] rG (fun gk => ?_)
    have hk6 : k = 0 ∨ k = 1 ∨ k = 2 ∨ k = 3 ∨ k = 4 ∨ k = 5 := by omega
    rcases hk6 with rfl | rfl | rfl | rfl | rfl | rfl
    · (refine rn ?_; (repeat (first | intro (g : Nat) | intro (v : Value) | intro (o : Value.oneCell' _ = true) | intro (cs : List Value) | intro (hcs : _ = List.set _ _ _) | intro (zs : List _) | intro (hzs : _))))
      exact rnd_n ⟨4, _, by omega, rB, 1, c.set 0 ((c.get 0).tmod 40), by omega, rfl, few_step hc (by omega), lcons (vint (by omega)) rfl, rfl⟩
    · (refine rn ?_; (repeat (first | intro (g : Nat) | intro (v : Value) | intro (o : Value.oneCell' _ = true) | intro (cs : List Value) | intro (hcs : _ = List.set _ _ _) | intro (zs : List _) | intro (hzs : _))))
      exact rnd_n ⟨3, _, by omega, rB, 2, c.set 1 ((c.get 1).tmod 40), by omega, rfl, few_step hc (by omega), lcons (vint (by omega)) rfl, rfl⟩
    · (refine rn ?_; (repeat (first | intro (g : Nat) | intro (v : Value) | intro (o : Value.oneCell' _ = true) | intro (cs : List Value) | intro (hcs : _ = List.set _ _ _) | intro (zs : List _) | intro (hzs : _))))
      exact rnd_n ⟨2, _, by omega, rB, 3, c.set 2 ((c.get 2).tmod 40), by omega, rfl, few_step hc (by omega), lcons (vint (by omega)) rfl, rfl⟩
    · (refine rn ?_; (repeat (first | intro (g : Nat) | intro (v : Value) | intro (o : Value.oneCell' _ = true) | intro (cs : List Value) | intro (hcs : _ = List.set _ _ _) | intro (zs : List _) | intro (hzs : _))))
      exact rnd_n ⟨1, _, by omega, rB, 4, c.set 3 ((c.get 3).tmod 40), by omega, rfl, few_step hc (by omega), lcons (vint (by omega)) rfl, rfl⟩
    · (refine rn ?_; (repeat (first | intro (g : Nat) | intro (v : Value) | intro (o : Value.oneCell' _ = true) | intro (cs : List Value) | intro (hcs : _ = List.set _ _ _) | intro (zs : List _) | intro (hzs : _))))
      exact rnd_n ⟨0, _, by omega, rB, 5, c.set 4 ((c.get 4).tmod 40), by omega, rfl, few_step hc (by omega), lcons (vint (by omega)) rfl, rfl⟩
    · (refine rn ?_; (repeat (first | intro (g : Nat) | intro (v : Value) | intro (o : Value.oneCell' _ = true) | intro (cs : List Value) | intro (hcs : _ = List.set _ _ _) | intro (zs : List _) | intro (hzs : _))))
      exact rnd_n ⟨30 - (i + 1), Evs_ v (w ++ [({ e with c := c } : Ev)]) :: M, by omega, rB, i + 1, v, _, by omega, rfl, by rw [List.length_append]; simp only [List.length_cons, List.length_nil]; omega, (fun x hx => by
        rcases List.mem_append.1 hx with hx | hx
        · exact hw x hx
        · simp only [List.mem_singleton] at hx
          subst hx
          exact ⟨⟨hc 0 (by omega), hc 1 (by omega), hc 2 (by omega), hc 3 (by omega), hc 4 (by omega)⟩, e, hel, c, rfl⟩), by assumption, lcons rfl (lcons (vint (by omega)) rfl), rfl⟩
  · have hcut : l.length ≤ i ∨ (i < l.length ∧ 30 ≤ i) := by omega
    rcases hcut with hcut | ⟨hcut, hcut2⟩
    all_goals
      (refine rn ?_; (repeat (first | intro (g : Nat) | intro (v : Value) | intro (o : Value.oneCell' _ = true) | intro (cs : List Value) | intro (hcs : _ = List.set _ _ _) | intro (zs : List _) | intro (hzs : _))))
      (first | refine fin_ret rS ?_ | refine fin_norm rS ?_)
      exact ⟨_, rB, o3, w, by omega, hw, rfl⟩
end Go.Proofs.Ytcclbplccnaonaa
/- Sorting by stamps, in plain words: what is inserted, one by one; two sorted rows as one. No condition. -/
namespace Go.Proofs.Ytcclbplccnaonaa
open Go.RowKit
set_option linter.unusedSimpArgs false
set_option linter.unusedVariables false
def stLt (a b : Ev) : Bool := decide (a.h < b.h ∨ (a.h = b.h ∧ a.r < b.r))
theorem stLt_iff (a b : Ev) : stLt a b = true ↔ a.h < b.h ∨ (a.h = b.h ∧ a.r < b.r) := by simp [stLt]
theorem stLt_f (a b : Ev) : stLt a b = false ↔ ¬ (a.h < b.h ∨ (a.h = b.h ∧ a.r < b.r)) := by simp [stLt]
theorem stLt_trans {a b c : Ev} (h : stLt a b = true) (k : stLt b c = true) : stLt a c = true := by
  rw [stLt_iff] at h k ⊢; omega
theorem stLt_ge {a b c : Ev} (h : stLt a b = false) (k : stLt b c = false) : stLt a c = false := by
  rw [stLt_f] at h k ⊢; omega
theorem stLt_mid {a b c : Ev} (h : stLt a c = true) (k : stLt b c = false) : stLt a b = true := by
  rw [stLt_iff] at h ⊢; rw [stLt_f] at k; omega
theorem stLt_asym {a b : Ev} (h : stLt a b = true) : stLt b a = false := by
  rw [stLt_iff] at h; rw [stLt_f]; omega
theorem stLt_irr (a : Ev) : stLt a a = false := by rw [stLt_f]; omega
def ins (x : Ev) : List Ev → List Ev
  | [] => [x]
  | y :: l => if stLt x y = true then x :: y :: l else y :: ins x l
def sortP (l : List Ev) : List Ev := l.foldl (fun acc x => ins x acc) []
theorem sortP_snoc (l : List Ev) (x : Ev) : sortP (l ++ [x]) = ins x (sortP l) := by unfold sortP; rw [List.foldl_append]; rfl
theorem ins_perm (x : Ev) : ∀ l : List Ev, (ins x l).Perm (x :: l)
  | [] => List.Perm.refl _
  | y :: l => by
    unfold ins
    split
    · exact List.Perm.refl _
    · exact ((ins_perm x l).cons y).trans (List.Perm.swap ..)
theorem sortP_perm (l : List Ev) : (sortP l).Perm l := by
  rw [← List.reverse_reverse l]
  generalize l.reverse = m
  induction m with
  | nil => exact List.Perm.refl _
  | cons x m ih =>
    rw [List.reverse_cons, sortP_snoc]
    exact ((ins_perm x _).trans (ih.cons x)).trans (List.perm_append_singleton x _).symm
/-- None is less than one ahead of it. -/
def Srt (l : List Ev) : Prop := l.Pairwise fun a b => stLt b a = false
theorem ins_srt (x : Ev) : ∀ {l : List Ev}, Srt l → Srt (ins x l)
  | [], _ => by simp [Srt, ins]
  | y :: l, h => by
    obtain ⟨h1, h2⟩ := List.pairwise_cons.1 h
    unfold ins
    split
    · rename_i hxy
      refine List.pairwise_cons.2 ⟨fun z hz => ?_, h⟩
      rcases List.mem_cons.1 hz with rfl | hz
      · exact stLt_asym hxy
      · exact stLt_ge (h1 z hz) (stLt_asym hxy)
    · rename_i hxy
      refine List.pairwise_cons.2 ⟨fun z hz => ?_, ins_srt x h2⟩
      rcases List.mem_cons.1 ((ins_perm x l).mem_iff.1 hz) with rfl | hz
      · simpa using hxy
      · exact h1 z hz
theorem sortP_srt (l : List Ev) : Srt (sortP l) := by
  rw [← List.reverse_reverse l]
  generalize l.reverse = m
  induction m with
  | nil => exact List.Pairwise.nil
  | cons x m ih =>
    rw [List.reverse_cons, sortP_snoc]
    exact ins_srt x ih
/-- Where one stands that is inserted. -/
theorem ins_at (x : Ev) : ∀ {pre suf : List Ev}, (∀ y ∈ pre, stLt x y = false) → (∀ y, suf.head? = some y → stLt x y = true) → ins x (pre ++ suf) = pre ++ x :: suf
  | [], [], _, _ => rfl
  | [], y :: l, _, h => by
    show ins x (y :: l) = _
    unfold ins
    rw [if_pos (h y rfl)]
    rfl
  | y :: l, suf, h1, h2 => by
    show ins x (y :: (l ++ suf)) = _
    unfold ins
    rw [if_neg (by rw [h1 y (by simp)]; simp), ins_at x (fun z hz => h1 z (List.mem_cons_of_mem _ hz)) h2]
    rfl
/-- What is sorted stays so. -/
theorem sortP_id {l : List Ev} (h : Srt l) : sortP l = l := by
  have key : ∀ m : List Ev, Srt m.reverse → sortP m.reverse = m.reverse := by
    intro m
    induction m with
    | nil => intro _; rfl
    | cons x m ih =>
      intro h
      rw [List.reverse_cons] at h ⊢
      obtain ⟨h1, _, h3⟩ := List.pairwise_append.1 h
      rw [sortP_snoc, ih h1]
      have := ins_at x (pre := m.reverse) (suf := []) (fun y hy => h3 y hy x (by simp)) (by simp)
      simpa using this
  have := key l.reverse (by simpa using h)
  simpa using this
def mrg : List Ev → List Ev → List Ev
  | [], r => r
  | a :: l, [] => a :: l
  | a :: l, b :: r => if stLt b a = true then b :: mrg (a :: l) r else a :: mrg l (b :: r)
theorem mrg_nil_r (l : List Ev) : mrg l [] = l := by cases l <;> simp [mrg]
theorem mrg_nil_l (l : List Ev) : mrg [] l = l := by cases l <;> simp [mrg]
theorem mrg_r (R1 L2 R2 : List Ev) (h : ∀ a ∈ L2, ∀ b ∈ R1, stLt b a = true) : mrg L2 (R1 ++ R2) = R1 ++ mrg L2 R2 := by
  induction R1 with
  | nil => rfl
  | cons b R1 ih =>
    have ih := ih fun a ha b hb => h a ha b (List.mem_cons_of_mem _ hb)
    cases L2 with
    | nil => rw [mrg_nil_l, mrg_nil_l]
    | cons a L2 =>
      show mrg (a :: L2) (b :: (R1 ++ R2)) = _
      rw [mrg, if_pos (h a (by simp) b (by simp)), ih]
      rfl
theorem mrg_l (L1 L2 R2 : List Ev) (h : ∀ a ∈ L1, ∀ b ∈ R2, stLt b a = false) : mrg (L1 ++ L2) R2 = L1 ++ mrg L2 R2 := by
  induction L1 with
  | nil => rfl
  | cons a L1 ih =>
    have ih := ih fun a ha b hb => h a (List.mem_cons_of_mem _ ha) b hb
    cases R2 with
    | nil => rw [mrg_nil_r, mrg_nil_r]
    | cons b R2 =>
      show mrg (a :: (L1 ++ L2)) (b :: R2) = _
      rw [mrg, if_neg (by rw [h a (by simp) b (by simp)]; simp), ih]
      rfl
/-- Two rows, parted so that what is behind is later, are merged part by part. -/
theorem mrg_app : ∀ (L1 R1 L2 R2 : List Ev), (∀ a ∈ L1, ∀ b ∈ R2, stLt b a = false) → (∀ a ∈ L2, ∀ b ∈ R1, stLt b a = true) → mrg (L1 ++ L2) (R1 ++ R2) = mrg L1 R1 ++ mrg L2 R2
  | [], R1, L2, R2, h1, h2 => by rw [mrg_nil_l]; exact mrg_r R1 L2 R2 h2
  | a :: L1, [], L2, R2, h1, h2 => by rw [mrg_nil_r]; exact mrg_l (a :: L1) L2 R2 h1
  | a :: L1, b :: R1, L2, R2, h1, h2 => by
    show mrg (a :: (L1 ++ L2)) (b :: (R1 ++ R2)) = _
    rw [mrg, mrg]
    split
    · have := mrg_app (a :: L1) R1 L2 R2 h1 (fun x hx y hy => h2 x hx y (List.mem_cons_of_mem _ hy))
      show b :: mrg (a :: L1 ++ L2) (R1 ++ R2) = _
      rw [this]; rfl
    · have := mrg_app L1 (b :: R1) L2 R2 (fun x hx y hy => h1 x (List.mem_cons_of_mem _ hx) y hy) h2
      show a :: mrg (L1 ++ L2) (b :: R1 ++ R2) = _
      rw [this]; rfl
termination_by L1 R1 => L1.length + R1.length
theorem ins_mrg (x : Ev) : ∀ (X Y : List Ev), ins x (mrg X Y) = mrg X (ins x Y)
  | [], Y => by rw [mrg_nil_l, mrg_nil_l]
  | a :: X, [] => by
    rw [mrg_nil_r]
    show ins x (a :: X) = mrg (a :: X) [x]
    unfold ins
    rw [mrg, mrg_nil_r]
    split
    · rfl
    · have := ins_mrg x X []
      rw [mrg_nil_r] at this
      rw [this]; rfl
  | a :: X, b :: Y => by
    by_cases hba : stLt b a = true
    · rw [mrg, if_pos hba]
      by_cases hxb : stLt x b = true
      · have e1 : ins x (b :: mrg (a :: X) Y) = x :: b :: mrg (a :: X) Y := by unfold ins; rw [if_pos hxb]
        have e2 : ins x (b :: Y) = x :: b :: Y := by unfold ins; rw [if_pos hxb]
        rw [e1, e2, mrg, if_pos (stLt_trans hxb hba), mrg, if_pos hba]
      · have e1 : ins x (b :: mrg (a :: X) Y) = b :: ins x (mrg (a :: X) Y) := by conv => lhs; unfold ins; rw [if_neg hxb]
        have e2 : ins x (b :: Y) = b :: ins x Y := by conv => lhs; unfold ins; rw [if_neg hxb]
        rw [e1, e2, ins_mrg x (a :: X) Y, mrg, if_pos hba]
    · rw [mrg, if_neg hba]
      by_cases hxa : stLt x a = true
      · have hxb : stLt x b = true := stLt_mid (c := a) hxa (by simpa using hba) |> fun h => h
        have e1 : ins x (a :: mrg X (b :: Y)) = x :: a :: mrg X (b :: Y) := by unfold ins; rw [if_pos hxa]
        have e2 : ins x (b :: Y) = x :: b :: Y := by unfold ins; rw [if_pos hxb]
        rw [e1, e2, mrg, if_pos hxa, mrg, if_neg hba]
      · have e1 : ins x (a :: mrg X (b :: Y)) = a :: ins x (mrg X (b :: Y)) := by conv => lhs; unfold ins; rw [if_neg hxa]
        rw [e1, ins_mrg x X (b :: Y)]
        by_cases hxb : stLt x b = true
        · have e2 : ins x (b :: Y) = x :: b :: Y := by unfold ins; rw [if_pos hxb]
          rw [e2]
          conv => rhs; rw [mrg, if_neg hxa]
        · have e2 : ins x (b :: Y) = b :: ins x Y := by conv => lhs; unfold ins; rw [if_neg hxb]
          rw [e2]
          conv => rhs; rw [mrg, if_neg hba]
termination_by X Y => X.length + Y.length
theorem sortP_app (A B : List Ev) : sortP (A ++ B) = mrg (sortP A) (sortP B) := by
  rw [← List.reverse_reverse B]
  generalize B.reverse = m
  induction m with
  | nil => simp [mrg_nil_r, sortP]
  | cons x m ih =>
    rw [List.reverse_cons, ← List.append_assoc, sortP_snoc, ih, sortP_snoc, ins_mrg]
end Go.Proofs.Ytcclbplccnaonaa
