/- Several texts, one behind the other; each says in its head what it proves. No condition. -/
import Derived.Test.YtcclbplccnaonaaZbjcafbdh
import Derived.Test.YtcclbplccnaonaaZjbgllfjk
import Derived.Test.YtcclbplccnaonaaZibdcggfj
import Derived.Test.YtcclbplccnaonaaZimmpolio
import Derived.Test.YtcclbplccnaonaaZkbdnacgf
/- kithref05.Edit, walked. No condition. -/
namespace Go.Proofs.Ytcclbplccnaonaa
open Go.RowKit
set_option linter.unusedSimpArgs false
set_option linter.unusedVariables false
theorem rkey_fn (s : List UInt8) (L : List Assn) (hs : s.length ≤ 9223372036854775807) : Fn Try.prog 56 #[.string (S s)] L fun v L' => v = .int .i64 (keyE s) ∧ L' = L := by
  rw [← keyErr_S]; exact Fn.of_kp fun w => ref5_Key _ w (by rw [S_size]; exact hs)
theorem rlabel_fn (n : Int) (L : List Assn) : Fn Try.prog 57 #[.int .i64 n] L fun v L' => v = .int .i64 (labelE n) ∧ L' = L := Fn.of_kp fun w => ref5_Label n w
theorem rvalue_fn (s : List UInt8) (L : List Assn) (hs : s.length ≤ 9223372036854775807) : Fn Try.prog 58 #[.string (S s)] L fun v L' => v = .int .i64 (valueE s) ∧ L' = L := by
  rw [← valueErr_S]; exact Fn.of_kp fun w => ref5_Value _ w (by rw [S_size]; exact hs)
set_option maxRecDepth 20000 attribute [local irreducible] Ex ExL Fn thn inb rnd fin meet Tab Mix mxEnd Val Sats RdT Rd RowT Row Blk Sub Fac ResV RVal Evs subs subs3 Hid Capd
set_option maxHeartbeats 1000000 in
theorem refEdit_fn (e : Ed) (L : List Assn) (hk : e.key.length ≤ 9223372036854775807) (hv : e.value.length ≤ 9223372036854775807) : Fn Try.prog 50 #[.agg (Rep.cells e).toArray] L fun v L' => v = .int .i64 e.err ∧ L' = L := by
  have h10 : keyE e.key = 0 ∨ keyE e.key = 10 := by unfold keyE; split <;> simp
  have h11 : labelE e.label = 0 ∨ labelE e.label = 11 := by unfold labelE; split <;> simp
  refine Fn.of_ex Try.func50 rfl Try.ntmps50 rfl ?_
  (repeat' (first | refine ExL.val (by rfl) (by rfl) (by rfl) rV ?_ | (first | refine Ex.seq ?_ | refine Ex.region ?_ | refine ExL.nil ?_ | refine thn_n ?_ | refine Ex.cond_t (by rfl) ?_ | refine Ex.cond_f (by rfl) ?_ | refine Ex.skip ?_ | refine Ex.block ?_ | refine Ex.exit ?_ | refine Ex.ret ?_ | refine thn_exit ?_ | refine thn_ret ?_ | refine inb_n ?_ | refine inb_hit (by rfl) ?_ | refine inb_miss (by rfl) ?_ | refine inb_ret ?_ | refine rnd_exit ?_ | refine rnd_ret ?_ | refine meet_ret ?_ | refine meet_exit ?_) | (apply exlGuard; first | refine ExL.gskip (by rfl) (by rfl) (by rfl) (by rfl) (by rfl) (by rfl) ?_ | refine ExL.gtake (by rfl) (by rfl) (by rfl) (by rfl) ?_ | refine ExL.gskipU (by rfl) (by rfl) (by rfl) (by rfl) ?_ | (refine ExL.gsplit (by rfl) (by rfl) (by rfl) (fun h => ?_) (fun h => ?_) <;> try (exfalso; omega))) | (first | refine st_new_ (by rfl) rE (fun g => ?_) | refine st_boxA (by rfl) (by rfl) (fun g => ?_) | refine st_box1 (by rfl) rE rN (fun g => ?_) | (apply exlStore; first | refine st_store1_ _ (by rfl) rK rE rN (by rfl) (by rfl) rE rE ?_ | refine st_storeW_ _ (by rfl) rK (by rfl) rC (by rfl) (by rfl) (by rfl) rE ?_ | refine st_storeR _ (by rfl) rK (by rfl) rE (by rfl) (by rfl) rE ?_ | refine st_storeA_ _ (by rfl) rK (by rfl) rC (by rfl) (by rfl) (by rfl) rE rE ?_ | refine st_storeB _ (by rfl) (by rfl) rO rO rK (by rfl) rO ?_ | refine st_storeG _ (by rfl) rK rE rN (by rfl) rO (fun cs hcs => ?_)) | refine st_slice0 (by rfl) (by rfl) (by rfl) (by rfl) (fun g => ?_) | refine st_slice1T (by rfl) (by rfl) (by rfl) (by rfl) (fun g => ?_) | refine st_makeT (by rfl) (by rfl) (by rfl) (by rfl) rE (by rfl) rO rO (fun v o => ?_) | (apply exlCopy; first | refine st_copyW _ (by rfl) rE rK rE rD (by rfl) rE (by rfl) (fun zs hzs => ?_) | refine st_copyS _ (by rfl) (by rfl) rK rE rD (by rfl) rE (by rfl) rO rO (fun zs hzs => ?_)) | refine st_sliceB (by rfl) (by rfl) (by rfl) (by rfl) (by rfl) (by rfl) (by rfl) rL rE rE (by rfl) (fun g => ?_) | refine st_slice1I (by rfl) (by rfl) (by rfl) (by rfl) (by rfl) (by rfl) (fun g => ?_) | refine st_slice1B (by rfl) (by rfl) (by rfl) (by rfl) (by rfl) (by rfl) rO rO (fun g => ?_) | refine st_slice1S (by rfl) (by rfl) (by rfl) (by rfl) (by rfl) (by rfl) (fun g => ?_) | refine st_slice2B (by rfl) (by rfl) (by rfl) (by rfl) (by rfl) (by rfl) (by rfl) rO rO rO rO (fun g => ?_) | (apply exlConv; first | refine st_bytes (by rfl) (by rfl) (by rfl) (by rfl) (by rfl) rO (fun v o => ?_) | refine st_mark _ (by rfl) (by rfl) rK (by rfl) (by rfl) (by rfl) ?_) | refine st_clear _ (0 : UInt8) (by rfl) rK (by rfl) (by rfl) (by rfl) (by rfl) (by rfl) rO ?_ | refine st_clearT _ (by rfl) rK rO (by rfl) (by rfl) rO rE ?_ | (apply exlAppend; first | refine st_app0 (by rfl) (by rfl) rE rD (by rfl) rE (by rfl) rE (by rfl) (by rfl) (by rfl) rO (fun v o => ?_) | refine st_app _ (by rfl) rE rK rE rD (by rfl) rE (by rfl) rE (by rfl) (by rfl) (by rfl) rO (fun v o => ?_) | refine st_shift _ (by rfl) (by rfl) (by rfl) rK rO (by rfl) (by rfl) (by rfl) rO rO rE ?_)) | (refine Ex.cond_d (by rfl) (fun h => ?_) (fun h => ?_) <;> try (exfalso; omega))))
  · (first | refine fin_ret rS ?_ | refine fin_norm rS ?_)
    exact ⟨_, rB, vint (by unfold Ed.err; rw [if_pos (by omega)]), rfl⟩
  · (first | refine fin_ret rS ?_ | refine fin_norm rS ?_)
    exact ⟨_, rB, vint (by unfold Ed.err; rw [if_pos (by omega)]), rfl⟩
  (refine st_callIs [] (by rfl) Try.call56 (by rfl) (by rfl) (rkey_fn _ _ hk) ?_; rintro _ _ ⟨rfl, rfl⟩)
  (repeat' (first | refine ExL.val (by rfl) (by rfl) (by rfl) rV ?_ | (first | refine Ex.seq ?_ | refine Ex.region ?_ | refine ExL.nil ?_ | refine thn_n ?_ | refine Ex.cond_t (by rfl) ?_ | refine Ex.cond_f (by rfl) ?_ | refine Ex.skip ?_ | refine Ex.block ?_ | refine Ex.exit ?_ | refine Ex.ret ?_ | refine thn_exit ?_ | refine thn_ret ?_ | refine inb_n ?_ | refine inb_hit (by rfl) ?_ | refine inb_miss (by rfl) ?_ | refine inb_ret ?_ | refine rnd_exit ?_ | refine rnd_ret ?_ | refine meet_ret ?_ | refine meet_exit ?_) | (apply exlGuard; first | refine ExL.gskip (by rfl) (by rfl) (by rfl) (by rfl) (by rfl) (by rfl) ?_ | refine ExL.gtake (by rfl) (by rfl) (by rfl) (by rfl) ?_ | refine ExL.gskipU (by rfl) (by rfl) (by rfl) (by rfl) ?_ | (refine ExL.gsplit (by rfl) (by rfl) (by rfl) (fun h => ?_) (fun h => ?_) <;> try (exfalso; omega))) | (first | refine st_new_ (by rfl) rE (fun g => ?_) | refine st_boxA (by rfl) (by rfl) (fun g => ?_) | refine st_box1 (by rfl) rE rN (fun g => ?_) | (apply exlStore; first | refine st_store1_ _ (by rfl) rK rE rN (by rfl) (by rfl) rE rE ?_ | refine st_storeW_ _ (by rfl) rK (by rfl) rC (by rfl) (by rfl) (by rfl) rE ?_ | refine st_storeR _ (by rfl) rK (by rfl) rE (by rfl) (by rfl) rE ?_ | refine st_storeA_ _ (by rfl) rK (by rfl) rC (by rfl) (by rfl) (by rfl) rE rE ?_ | refine st_storeB _ (by rfl) (by rfl) rO rO rK (by rfl) rO ?_ | refine st_storeG _ (by rfl) rK rE rN (by rfl) rO (fun cs hcs => ?_)) | refine st_slice0 (by rfl) (by rfl) (by rfl) (by rfl) (fun g => ?_) | refine st_slice1T (by rfl) (by rfl) (by rfl) (by rfl) (fun g => ?_) | refine st_makeT (by rfl) (by rfl) (by rfl) (by rfl) rE (by rfl) rO rO (fun v o => ?_) | (apply exlCopy; first | refine st_copyW _ (by rfl) rE rK rE rD (by rfl) rE (by rfl) (fun zs hzs => ?_) | refine st_copyS _ (by rfl) (by rfl) rK rE rD (by rfl) rE (by rfl) rO rO (fun zs hzs => ?_)) | refine st_sliceB (by rfl) (by rfl) (by rfl) (by rfl) (by rfl) (by rfl) (by rfl) rL rE rE (by rfl) (fun g => ?_) | refine st_slice1I (by rfl) (by rfl) (by rfl) (by rfl) (by rfl) (by rfl) (fun g => ?_) | refine st_slice1B (by rfl) (by rfl) (by rfl) (by rfl) (by rfl) (by rfl) rO rO (fun g => ?_) | refine st_slice1S (by rfl) (by rfl) (by rfl) (by rfl) (by rfl) (by rfl) (fun g => ?_) | refine st_slice2B (by rfl) (by rfl) (by rfl) (by rfl) (by rfl) (by rfl) (by rfl) rO rO rO rO (fun g => ?_) | (apply exlConv; first | refine st_bytes (by rfl) (by rfl) (by rfl) (by rfl) (by rfl) rO (fun v o => ?_) | refine st_mark _ (by rfl) (by rfl) rK (by rfl) (by rfl) (by rfl) ?_) | refine st_clear _ (0 : UInt8) (by rfl) rK (by rfl) (by rfl) (by rfl) (by rfl) (by rfl) rO ?_ | refine st_clearT _ (by rfl) rK rO (by rfl) (by rfl) rO rE ?_ | (apply exlAppend; first | refine st_app0 (by rfl) (by rfl) rE rD (by rfl) rE (by rfl) rE (by rfl) (by rfl) (by rfl) rO (fun v o => ?_) | refine st_app _ (by rfl) rE rK rE rD (by rfl) rE (by rfl) rE (by rfl) (by rfl) (by rfl) rO (fun v o => ?_) | refine st_shift _ (by rfl) (by rfl) (by rfl) rK rO (by rfl) (by rfl) (by rfl) rO rO rE ?_)) | (refine Ex.cond_d (by rfl) (fun h => ?_) (fun h => ?_) <;> try (exfalso; omega))))
  all_goals first
    | ((refine st_callIs [] (by rfl) Try.call57 (by rfl) (by rfl) (rlabel_fn _ _) ?_; rintro _ _ ⟨rfl, rfl⟩); (repeat' (first | refine ExL.val (by rfl) (by rfl) (by rfl) rV ?_ | (first | refine Ex.seq ?_ | refine Ex.region ?_ | refine ExL.nil ?_ | refine thn_n ?_ | refine Ex.cond_t (by rfl) ?_ | refine Ex.cond_f (by rfl) ?_ | refine Ex.skip ?_ | refine Ex.block ?_ | refine Ex.exit ?_ | refine Ex.ret ?_ | refine thn_exit ?_ | refine thn_ret ?_ | refine inb_n ?_ | refine inb_hit (by rfl) ?_ | refine inb_miss (by rfl) ?_ | refine inb_ret ?_ | refine rnd_exit ?_ | refine rnd_ret ?_ | refine meet_ret ?_ | refine meet_exit ?_) | (apply exlGuard; first | refine ExL.gskip (by rfl) (by rfl) (by rfl) (by rfl) (by rfl) (by rfl) ?_ | refine ExL.gtake (by rfl) (by rfl) (by rfl) (by rfl) ?_ | refine ExL.gskipU (by rfl) (by rfl) (by rfl) (by rfl) ?_ | (refine ExL.gsplit (by rfl) (by rfl) (by rfl) (fun h => ?_) (fun h => ?_) <;> try (exfalso; omega))) | (first | refine st_new_ (by rfl) rE (fun g => ?_) | refine st_boxA (by rfl) (by rfl) (fun g => ?_) | refine st_box1 (by rfl) rE rN (fun g => ?_) | (apply exlStore; first | refine st_store1_ _ (by rfl) rK rE rN (by rfl) (by rfl) rE rE ?_ | refine st_storeW_ _ (by rfl) rK (by rfl) rC (by rfl) (by rfl) (by rfl) rE ?_ | refine st_storeR _ (by rfl) rK (by rfl) rE (by rfl) (by rfl) rE ?_ | refine st_storeA_ _ (by rfl) rK (by rfl) rC (by rfl) (by rfl) (by rfl) rE rE ?_ | refine st_storeB _ (by rfl) (by rfl) rO rO rK (by rfl) rO ?_ | refine st_storeG _ (by rfl) rK rE rN (by rfl) rO (fun cs hcs => ?_)) | refine st_slice0 (by rfl) (by rfl) (by rfl) (by rfl) (fun g => ?_) | refine st_slice1T (by rfl) (by rfl) (by rfl) (by rfl) (fun g => ?_) | refine st_makeT (by rfl) (by rfl) (by rfl) (by rfl) rE (by rfl) rO rO (fun v o => ?_) | (apply exlCopy; first | refine st_copyW _ (by rfl) rE rK rE rD (by rfl) rE (by rfl) (fun zs hzs => ?_) | refine st_copyS _ (by rfl) (by rfl) rK rE rD (by rfl) rE (by rfl) rO rO (fun zs hzs => ?_)) | refine st_sliceB (by rfl) (by rfl) (by rfl) (by rfl) (by rfl) (by rfl) (by rfl) rL rE rE (by rfl) (fun g => ?_) | refine st_slice1I (by rfl) (by rfl) (by rfl) (by rfl) (by rfl) (by rfl) (fun g => ?_) | refine st_slice1B (by rfl) (by rfl) (by rfl) (by rfl) (by rfl) (by rfl) rO rO (fun g => ?_) | refine st_slice1S (by rfl) (by rfl) (by rfl) (by rfl) (by rfl) (by rfl) (fun g => ?_) | refine st_slice2B (by rfl) (by rfl) (by rfl) (by rfl) (by rfl) (by rfl) (by rfl) rO rO rO rO (fun g => ?_) | (apply exlConv; first | refine st_bytes (by rfl) (by rfl) (by rfl) (by rfl) (by rfl) rO (fun v o => ?_) | refine st_mark _ (by rfl) (by rfl) rK (by rfl) (by rfl) (by rfl) ?_) | refine st_clear _ (0 : UInt8) (by rfl) rK (by rfl) (by rfl) (by rfl) (by rfl) (by rfl) rO ?_ | refine st_clearT _ (by rfl) rK rO (by rfl) (by rfl) rO rE ?_ | (apply exlAppend; first | refine st_app0 (by rfl) (by rfl) rE rD (by rfl) rE (by rfl) rE (by rfl) (by rfl) (by rfl) rO (fun v o => ?_) | refine st_app _ (by rfl) rE rK rE rD (by rfl) rE (by rfl) rE (by rfl) (by rfl) (by rfl) rO (fun v o => ?_) | refine st_shift _ (by rfl) (by rfl) (by rfl) rK rO (by rfl) (by rfl) (by rfl) rO rO rE ?_)) | (refine Ex.cond_d (by rfl) (fun h => ?_) (fun h => ?_) <;> try (exfalso; omega)))))
    | skip
  all_goals first
    | ((refine st_callIs [] (by rfl) Try.call58 (by rfl) (by rfl) (rvalue_fn _ _ hv) ?_; rintro _ _ ⟨rfl, rfl⟩); (refine rn ?_; (repeat (first | intro (g : Nat) | intro (v : Value) | intro (o : Value.oneCell' _ = true) | intro (cs : List Value) | intro (hcs : _ = List.set _ _ _) | intro (zs : List _) | intro (hzs : _)))))
    | skip
  all_goals
    (first | refine fin_ret rS ?_ | refine fin_norm rS ?_)
    refine ⟨_, rB, vint ?_, rfl⟩
    unfold Ed.err
    repeat (first | rw [if_pos (by first | omega | assumption)] | rw [if_neg (by first | omega | assumption)])
    try omega
end Go.Proofs.Ytcclbplccnaonaa
/- kithref06.May, walked. No condition. -/
namespace Go.Proofs.Ytcclbplccnaonaa
open Go.RowKit
set_option linter.unusedSimpArgs false
set_option linter.unusedVariables false
set_option maxRecDepth 20000 attribute [local irreducible] Ex ExL Fn thn inb rnd fin meet Tab Mix mxEnd Val Sats RdT Rd RowT Row Blk Sub Fac ResV RVal Evs subs subs3 Hid Capd
theorem rin_F (n a b : Int) (M : List Assn) : Fn Try.prog 49 #[.int .i64 n, .int .i64 a, .int .i64 b] M fun v L' => v = .bool (decide (a ≤ n ∧ n ≤ b)) ∧ L' = M := by
  refine Fn.of_ex Try.func49 rfl Try.ntmps49 rfl ?_
  by_cases h1 : a ≤ n
  · by_cases h2 : n ≤ b
    · rw [decide_eq_true (⟨h1, h2⟩ : a ≤ n ∧ n ≤ b)]
      (refine rn ?_; (repeat (first | intro (g : Nat) | intro (v : Value) | intro (o : Value.oneCell' _ = true) | intro (cs : List Value) | intro (hcs : _ = List.set _ _ _) | intro (zs : List _) | intro (hzs : _))))
      (first | refine fin_ret rS ?_ | refine fin_norm rS ?_)
      exact ⟨_, rB, rfl, rfl⟩
    · rw [decide_eq_false (fun h : a ≤ n ∧ n ≤ b => h2 h.2)]
      (refine rn ?_; (repeat (first | intro (g : Nat) | intro (v : Value) | intro (o : Value.oneCell' _ = true) | intro (cs : List Value) | intro (hcs : _ = List.set _ _ _) | intro (zs : List _) | intro (hzs : _))))
      (first | refine fin_ret rS ?_ | refine fin_norm rS ?_)
      exact ⟨_, rB, rfl, rfl⟩
  · rw [decide_eq_false (fun h : a ≤ n ∧ n ≤ b => h1 h.1)]
    (refine rn ?_; (repeat (first | intro (g : Nat) | intro (v : Value) | intro (o : Value.oneCell' _ = true) | intro (cs : List Value) | intro (hcs : _ = List.set _ _ _) | intro (zs : List _) | intro (hzs : _))))
    (first | refine fin_ret rS ?_ | refine fin_norm rS ?_)
    exact ⟨_, rB, rfl, rfl⟩
theorem redit6_F (e : Ev) (M : List Assn) : Fn Try.prog 51 #[.agg (Rep.cells e).toArray] M fun v L' => v = .agg (Rep.cells e.ed).toArray ∧ L' = M := by
  refine Fn.of_ex Try.func51 rfl Try.ntmps51 rfl ?_
  (refine rn ?_; (repeat (first | intro (g : Nat) | intro (v : Value) | intro (o : Value.oneCell' _ = true) | intro (cs : List Value) | intro (hcs : _ = List.set _ _ _) | intro (zs : List _) | intro (hzs : _))))
  (first | refine fin_ret rS ?_ | refine fin_norm rS ?_)
  exact ⟨_, rB, rfl, rfl⟩
set_option maxHeartbeats 4000000 in
theorem rmay_F (e : Ev) (M : List Assn) (hk : e.ed.key.length ≤ 9223372036854775807) (hv : e.ed.value.length ≤ 9223372036854775807) : Fn Try.prog 38 #[.agg (Rep.cells e).toArray] M fun v L' => (∃ x : Int, (x = 0 ↔ e.May) ∧ v = .int .i64 x) ∧ L' = M := by
  have hno : ¬ e.May → ∃ x : Int, (x = 0 ↔ e.May) ∧ Value.int .i64 1 = .int .i64 x := fun h => ⟨1, ⟨fun x => absurd x (by decide), fun k => (h k).elim⟩, rfl⟩
  refine Fn.of_ex Try.func38 rfl Try.ntmps38 rfl ?_
  (refine rn ?_; (repeat (first | intro (g : Nat) | intro (v : Value) | intro (o : Value.oneCell' _ = true) | intro (cs : List Value) | intro (hcs : _ = List.set _ _ _) | intro (zs : List _) | intro (hzs : _))))
  revert g
  intro g1
  (refine Ex.mixA 27 _ rfl (by kernel_rfl) (Fac.refl _) ?_; (refine mn ?_; (repeat (first | intro (g : Nat) | intro (v : Value) | intro (o : Value.oneCell' _ = true) | intro (cs : List Value) | intro (hcs : _ = List.set _ _ _) | intro (zs : List _) | intro (hzs : _)))))
  (refine mx_act (by rfl) (by rfl) (by rfl) ?_; refine st_callIs [] (by rfl) Try.call49 rE (by rfl) (rin_F e.r 0 4 _) ?_)
  rintro _ _ ⟨rfl, rfl⟩
  by_cases hr : 0 ≤ e.r ∧ e.r ≤ 4
  · rw [decide_eq_true hr]
    (refine ExL.nil ?_; refine mxEnd_n rF ?_; (refine mn ?_; (repeat (first | intro (g : Nat) | intro (v : Value) | intro (o : Value.oneCell' _ = true) | intro (cs : List Value) | intro (hcs : _ = List.set _ _ _) | intro (zs : List _) | intro (hzs : _)))))
    (refine mx_act (by rfl) (by rfl) (by rfl) ?_; refine st_callIs [] (by rfl) Try.call49 rE (by rfl) (rin_F e.n 1 1048576 _) ?_)
    rintro _ _ ⟨rfl, rfl⟩
    by_cases hn : 1 ≤ e.n ∧ e.n ≤ 1048576
    · rw [decide_eq_true hn]
      (refine ExL.nil ?_; refine mxEnd_n rF ?_; (refine mn ?_; (repeat (first | intro (g : Nat) | intro (v : Value) | intro (o : Value.oneCell' _ = true) | intro (cs : List Value) | intro (hcs : _ = List.set _ _ _) | intro (zs : List _) | intro (hzs : _)))))
      (refine mx_act (by rfl) (by rfl) (by rfl) ?_; refine st_callIs [] (by rfl) Try.call49 rE (by rfl) (rin_F e.h 1 16777216 _) ?_)
      rintro _ _ ⟨rfl, rfl⟩
      by_cases hh : 1 ≤ e.h ∧ e.h ≤ 16777216
      · rw [decide_eq_true hh]
        have hr5 : e.r.toNat < 5 := by omega
        have e1 : [e.c.a, e.c.b, e.c.c, e.c.d, e.c.e, e.h, e.ed.kind].getD e.r.toNat 0 = e.c.get e.r.toNat := getD7 e.c _ _ hr5
        by_cases ho : e.c.get e.r.toNat = e.n - 1
        · (refine ExL.nil ?_; refine mxEnd_n rF ?_; (refine mn ?_; (repeat (first | intro (g : Nat) | intro (v : Value) | intro (o : Value.oneCell' _ = true) | intro (cs : List Value) | intro (hcs : _ = List.set _ _ _) | intro (zs : List _) | intro (hzs : _)))))
          (refine rn ?_; (repeat (first | intro (g : Nat) | intro (v : Value) | intro (o : Value.oneCell' _ = true) | intro (cs : List Value) | intro (hcs : _ = List.set _ _ _) | intro (zs : List _) | intro (hzs : _))))
          refine Ex.loop [3] (fun m vs L' => ∃ (i : Nat), i ≤ 5 ∧ m = 5 - i ∧ vs = [.int .i64 i] ∧ (∀ j, j < i → 0 ≤ e.c.get j ∧ e.c.get j ≤ 1048576) ∧ L' = Blk g1 31 (Rep.cells e) :: M) 5 ⟨0, by omega, by omega, rfl, fun j hj => by omega, rfl⟩ ?_
          rintro m vs g2 L' ⟨i, hi, rfl, rfl, hall, rfl⟩
          refine Ex.keep [1, 3] rG (fun gk => ?_)
          by_cases hlt : i < 5
          · have hno2 : ¬ (0 ≤ e.c.get i ∧ e.c.get i ≤ 1048576) → ¬ e.May := fun h k => h (k.c i hlt)
            have e2 := getD7 e.c e.h e.ed.kind hlt
            (refine rn ?_; (repeat (first | intro (g : Nat) | intro (v : Value) | intro (o : Value.oneCell' _ = true) | intro (cs : List Value) | intro (hcs : _ = List.set _ _ _) | intro (zs : List _) | intro (hzs : _))))
            rw [Int.toNat_natCast, e2]
            refine st_callIs [] (by rfl) Try.call49 (by rfl) (by rfl) (rin_F (e.c.get i) 0 1048576 _) ?_
            rintro _ _ ⟨rfl, rfl⟩
            by_cases hci : 0 ≤ e.c.get i ∧ e.c.get i ≤ 1048576
            · have hall2 : ∀ j, j < i + 1 → 0 ≤ e.c.get j ∧ e.c.get j ≤ 1048576 := fun j hj => by
                by_cases hji : j = i
                · subst hji; exact hci
                · exact hall j (by omega)
              clear hall
              rw [decide_eq_true hci]
              (refine rn ?_; (repeat (first | intro (g : Nat) | intro (v : Value) | intro (o : Value.oneCell' _ = true) | intro (cs : List Value) | intro (hcs : _ = List.set _ _ _) | intro (zs : List _) | intro (hzs : _))))
              exact rnd_n ⟨5 - (i + 1), _, by omega, rB, i + 1, by omega, by omega, lcons (vint (by omega)) rfl, hall2, rfl⟩
            · rw [decide_eq_false hci]
              clear hall
              (refine rn ?_; (repeat (first | intro (g : Nat) | intro (v : Value) | intro (o : Value.oneCell' _ = true) | intro (cs : List Value) | intro (hcs : _ = List.set _ _ _) | intro (zs : List _) | intro (hzs : _))))
              (first | refine fin_ret rS ?_ | refine fin_norm rS ?_)
              exact ⟨_, rB, hno (hno2 hci), rfl⟩
          · (refine rn ?_; (repeat (first | intro (g : Nat) | intro (v : Value) | intro (o : Value.oneCell' _ = true) | intro (cs : List Value) | intro (hcs : _ = List.set _ _ _) | intro (zs : List _) | intro (hzs : _))))
            refine st_callIs [] (by rfl) Try.call51 (by rfl) (by rfl) (redit6_F e _) ?_
            rintro _ _ ⟨rfl, rfl⟩
            refine st_callIs [] (by rfl) Try.call50 (by rfl) (by rfl) (refEdit_fn e.ed _ hk hv) ?_
            rintro _ _ ⟨rfl, rfl⟩
            (refine rn ?_; (repeat (first | intro (g : Nat) | intro (v : Value) | intro (o : Value.oneCell' _ = true) | intro (cs : List Value) | intro (hcs : _ = List.set _ _ _) | intro (zs : List _) | intro (hzs : _))))
            (first | refine fin_ret rS ?_ | refine fin_norm rS ?_)
            exact ⟨_, rB, ⟨e.ed.err, ⟨fun h => ⟨⟨hr.1, by omega⟩, hn, hh, fun j hj => hall j (by omega), ho, h⟩, fun k => k.ed⟩, rfl⟩, rfl⟩
        · have hm : ¬ e.May := fun k => ho k.own
          (refine ExL.nil ?_; refine mxEnd_n rF ?_; (refine mn ?_; (repeat (first | intro (g : Nat) | intro (v : Value) | intro (o : Value.oneCell' _ = true) | intro (cs : List Value) | intro (hcs : _ = List.set _ _ _) | intro (zs : List _) | intro (hzs : _)))))
          (refine rn ?_; (repeat (first | intro (g : Nat) | intro (v : Value) | intro (o : Value.oneCell' _ = true) | intro (cs : List Value) | intro (hcs : _ = List.set _ _ _) | intro (zs : List _) | intro (hzs : _))))
          (first | refine fin_ret rS ?_ | refine fin_norm rS ?_)
          exact ⟨_, rB, hno hm, rfl⟩
      · rw [decide_eq_false hh]
        (refine ExL.nil ?_; refine mxEnd_n rF ?_; (refine mn ?_; (repeat (first | intro (g : Nat) | intro (v : Value) | intro (o : Value.oneCell' _ = true) | intro (cs : List Value) | intro (hcs : _ = List.set _ _ _) | intro (zs : List _) | intro (hzs : _)))))
        (refine rn ?_; (repeat (first | intro (g : Nat) | intro (v : Value) | intro (o : Value.oneCell' _ = true) | intro (cs : List Value) | intro (hcs : _ = List.set _ _ _) | intro (zs : List _) | intro (hzs : _))))
        (first | refine fin_ret rS ?_ | refine fin_norm rS ?_)
        exact ⟨_, rB, hno fun k => hh k.h, rfl⟩
    · rw [decide_eq_false hn]
      (refine ExL.nil ?_; refine mxEnd_n rF ?_; (refine mn ?_; (repeat (first | intro (g : Nat) | intro (v : Value) | intro (o : Value.oneCell' _ = true) | intro (cs : List Value) | intro (hcs : _ = List.set _ _ _) | intro (zs : List _) | intro (hzs : _)))))
      (refine rn ?_; (repeat (first | intro (g : Nat) | intro (v : Value) | intro (o : Value.oneCell' _ = true) | intro (cs : List Value) | intro (hcs : _ = List.set _ _ _) | intro (zs : List _) | intro (hzs : _))))
      (first | refine fin_ret rS ?_ | refine fin_norm rS ?_)
      exact ⟨_, rB, hno fun k => hn k.n, rfl⟩
  · rw [decide_eq_false hr]
    (refine ExL.nil ?_; refine mxEnd_n rF ?_; (refine mn ?_; (repeat (first | intro (g : Nat) | intro (v : Value) | intro (o : Value.oneCell' _ = true) | intro (cs : List Value) | intro (hcs : _ = List.set _ _ _) | intro (zs : List _) | intro (hzs : _)))))
    (refine rn ?_; (repeat (first | intro (g : Nat) | intro (v : Value) | intro (o : Value.oneCell' _ = true) | intro (cs : List Value) | intro (hcs : _ = List.set _ _ _) | intro (zs : List _) | intro (hzs : _))))
    (first | refine fin_ret rS ?_ | refine fin_norm rS ?_)
    exact ⟨_, rB, hno fun k => hr ⟨k.r.1, by have := k.r.2; omega⟩, rfl⟩
end Go.Proofs.Ytcclbplccnaonaa
/- kithref08: Clock, Height, Right, walked. No condition. -/
namespace Go.Proofs.Ytcclbplccnaonaa
open Go.RowKit
set_option linter.unusedSimpArgs false
set_option linter.unusedVariables false
theorem upTo_more {l : List Ev} {r : Nat} (hr : r < 5) {k : Int} (h0 : 0 ≤ k) (hall : ∀ j, 1 ≤ j → j ≤ k → (⟨(r : Int), j⟩ : Mk) ∈ marks l) : k ≤ (clockP l).get r := by
  have hu := clockP_upTo l hr
  refine Classical.byContradiction fun hc => hu.2.2 (hall _ (by have := hu.1; omega) (by omega))
theorem upTo_end {l : List Ev} {r : Nat} (hr : r < 5) {k : Int} (h0 : 0 ≤ k) (hall : ∀ j, 1 ≤ j → j ≤ k → (⟨(r : Int), j⟩ : Mk) ∈ marks l) (hn : (⟨(r : Int), k + 1⟩ : Mk) ∉ marks l) : k = (clockP l).get r :=
  UpTo.unique ⟨h0, fun j h1 h2 => hall j (by omega) h2, hn⟩ (clockP_upTo l hr)
set_option maxRecDepth 20000 attribute [local irreducible] Ex ExL Fn thn inb rnd fin meet Tab Mix mxEnd Val Sats RdT Rd RowT Row Blk Sub Fac ResV RVal Evs subs subs3 Hid Capd
set_option maxHeartbeats 8000000 in
theorem rclock_F (v0 : Value) (l : List Ev) (M : List Assn) (hr : RdT M v0 l) (hl : l.length ≤ 1000000) : Fn Try.prog 25 #[v0] M fun v L' => v = (clockP l).val ∧ L' = M := by
  refine Fn.of_ex Try.func25 rfl Try.ntmps25 rfl ?_
  (refine rn ?_; (repeat (first | intro (g : Nat) | intro (v : Value) | intro (o : Value.oneCell' _ = true) | intro (cs : List Value) | intro (hcs : _ = List.set _ _ _) | intro (zs : List _) | intro (hzs : _))))
  revert g
  intro g3
  revert g
  intro g2
  refine Ex.loop [4] (fun m vs L' => ∃ (r : Nat) (C : Clk), r ≤ 5 ∧ m = 5 - r ∧ vs = [.int .i64 r] ∧ (∀ q : Nat, q < r → C.get q = (clockP l).get q) ∧ (∀ q : Nat, r ≤ q → C.get q = 0) ∧ L' = Blk g3 29 (Rep.cells C) :: Blk g2 29 (Rep.cells Clk.zero) :: M) 5 ⟨0, Clk.zero, by omega, rfl, rfl, fun j hj => by omega, fun j _ => zero_get j, rfl⟩ ?_
  rintro m vs g1 L' ⟨r, C, hr5, rfl, rfl, hall, hz, rfl⟩
  refine Ex.keep [0, 2, 3, 4] rG (fun gk => ?_)
  by_cases hlt : r < 5
  · have hbd := clockP_bd l hlt
    (refine rn ?_; (repeat (first | intro (g : Nat) | intro (v : Value) | intro (o : Value.oneCell' _ = true) | intro (cs : List Value) | intro (hcs : _ = List.set _ _ _) | intro (zs : List _) | intro (hzs : _))))
    refine Ex.loop [] (fun m vs L' => ∃ (D : Clk), (∀ q : Nat, q < r → D.get q = (clockP l).get q) ∧ (∀ q : Nat, r < q → D.get q = 0) ∧ 0 ≤ D.get r ∧ (∀ j, 1 ≤ j → j ≤ D.get r → (⟨(r : Int), j⟩ : Mk) ∈ marks l) ∧ D.get r ≤ (clockP l).get r ∧ m = ((clockP l).get r - D.get r).toNat ∧ vs = [] ∧ L' = Blk g3 29 (Rep.cells D) :: Blk g2 29 (Rep.cells Clk.zero) :: M) ((clockP l).get r).toNat ⟨C, hall, fun q hq => hz q (by omega), by rw [hz r (Nat.le_refl _)]; omega, fun j h1 h2 => by rw [hz r (Nat.le_refl _)] at h2; omega, by rw [hz r (Nat.le_refl _)]; omega, by rw [hz r (Nat.le_refl _)]; congr 1; omega, rfl, rfl⟩ ?_
    rintro m vs g4 L' ⟨D, hD1, hD2, hD3, hD4, hD5, rfl, rfl, rfl⟩
    refine Ex.keep [0, 2, 3, 4] rG (fun gk => ?_)
    have e1 := Clk.getD_eq D (r : Int).toNat
    rw [show D.get (r : Int).toNat = D.get r from rfl] at e1
    have hcl : (Rep.cells D).length = 5 := rfl
    have hnx := fun (hm : (⟨(r : Int), D.get r + 1⟩ : Mk) ∈ marks l) => upTo_more (l := l) hlt (k := D.get r + 1) (by omega) (fun j h1 h2 => by
      by_cases he : j = D.get r + 1
      · subst he; exact hm
      · exact hD4 j h1 (by omega))
    have hen := upTo_end (l := l) hlt hD3 hD4
    clear hall hz
    (refine rn ?_; (repeat (first | intro (g : Nat) | intro (v : Value) | intro (o : Value.oneCell' _ = true) | intro (cs : List Value) | intro (hcs : _ = List.set _ _ _) | intro (zs : List _) | intro (hzs : _))))
    rw [e1]
    refine st_callIs [] (by rfl) Try.call39 (by rfl) (by rfl) (find_F v0 l r (D.get r + 1) _ rD hl) ?_
    rintro _ _ ⟨⟨x, hx1, hx2, hx, rfl⟩, rfl⟩
    by_cases hx0 : x < 0
    · have he := hen (hx.neg.1 hx0)
      have hall2 : ∀ q : Nat, q < r + 1 → D.get q = (clockP l).get q := fun q hq => by
        by_cases h : q = r
        · subst h; exact he
        · exact hD1 q (by omega)
      clear hnx hen hD1 hD4
      (refine rn ?_; (repeat (first | intro (g : Nat) | intro (v : Value) | intro (o : Value.oneCell' _ = true) | intro (cs : List Value) | intro (hcs : _ = List.set _ _ _) | intro (zs : List _) | intro (hzs : _))))
      exact rnd_n ⟨5 - (r + 1), _, by omega, rB, r + 1, D, by omega, rfl, lcons (vint (by omega)) rfl, hall2, fun q hq => hD2 q (by omega), rfl⟩
    · have hm : (⟨(r : Int), D.get r + 1⟩ : Mk) ∈ marks l := Classical.byContradiction fun h => hx0 (hx.neg.2 h)
      have hge := hnx hm
      clear hnx hen
      (refine rn ?_; (repeat (first | intro (g : Nat) | intro (v : Value) | intro (o : Value.oneCell' _ = true) | intro (cs : List Value) | intro (hcs : _ = List.set _ _ _) | intro (zs : List _) | intro (hzs : _))))
      rw [show (0 + (r : Int).toNat * 1) = r by omega, Clk.cells_set D r hlt, e1] at hcs
      subst hcs
      have hg : (D.set r (D.get r + 1)).get r = D.get r + 1 := by rw [Clk.get_set _ _ _ _ hlt, if_pos rfl]
      exact rnd_n ⟨((clockP l).get r - (D.get r + 1)).toNat, Blk g3 29 (Rep.cells (D.set r (D.get r + 1))) :: Blk g2 29 (Rep.cells Clk.zero) :: M, by omega, rB, D.set r (D.get r + 1), fun q hq => by rw [Clk.get_set _ _ _ _ hlt, if_neg (by omega)]; exact hD1 q hq, fun q hq => by rw [Clk.get_set _ _ _ _ hlt, if_neg (by omega)]; exact hD2 q hq, by omega, fun j h1 h2 => by
        rw [hg] at h2
        by_cases he : j = D.get r + 1
        · subst he; exact hm
        · exact hD4 j h1 (by omega), by omega, by rw [hg], rfl, rfl⟩
  · obtain rfl : r = 5 := by omega
    have hC : C = clockP l := Clk.ext_get fun j hj => hall j hj
    subst hC
    (refine rn ?_; (repeat (first | intro (g : Nat) | intro (v : Value) | intro (o : Value.oneCell' _ = true) | intro (cs : List Value) | intro (hcs : _ = List.set _ _ _) | intro (zs : List _) | intro (hzs : _))))
    (first | refine fin_ret rS ?_ | refine fin_norm rS ?_)
    exact ⟨_, rB, rfl, rfl⟩
end Go.Proofs.Ytcclbplccnaonaa
/- kithref08.Right, walked. No condition. -/
namespace Go.Proofs.Ytcclbplccnaonaa
open Go.RowKit
set_option linter.unusedSimpArgs false
set_option linter.unusedVariables false
/-- What the reference asks of one event. -/
structure RefE (l : List Ev) (i : Nat) (h : i < l.length) : Prop where
  may : (l[i]'h).May
  first : ∀ k (hk : k < l.length), k < i → (l[k]'hk).mk_ ≠ (l[i]'h).mk_
  whole : WholeP l (l[i]'h).c
  high : (l[i]'h).h = heightP l (l[i]'h).c
theorem wrap_h {l : List Ev} {c : Clk} {h : Int} (hh : ∀ e ∈ l, I64 e.h) (hb : 1 ≤ h ∧ h ≤ 16777216) : h = IntKind.i64.wrap (heightP l c) ↔ h = heightP l c := by
  have h1 := height_rng c hh
  unfold heightP
  unfold I64 at h1
  by_cases hm : (l.foldl (heightS c) (0, false)).1 = 9223372036854775807
  · rw [hm]
    have : IntKind.i64.wrap (9223372036854775807 + 1) = -9223372036854775808 := by decide
    rw [this]
    omega
  · rw [wrap_in (by unfold I64; omega)]
theorem refs_right {l : List Ev} (h : ∀ i (hi : i < l.length), RefE l i hi) : RightP l := by
  have hd : Dst l := List.pairwise_iff_getElem.2 fun i j hi hj hij => (h j hj).first i hi hij
  refine ⟨fun e he => ?_, hd, fun e he => ?_⟩
  · obtain ⟨i, hi, rfl⟩ := List.getElem_of_mem he
    exact (h i hi).may
  · obtain ⟨i, hi, rfl⟩ := List.getElem_of_mem he
    refine ⟨le_clockP.2 fun r n hh => ?_, (h i hi).high, fun a ha hh => ?_⟩
    · obtain ⟨h1, h2, h3, h4⟩ := (Clk.has_iff _ _ _).1 hh
      obtain ⟨k, hk, hm, _⟩ := (h i hi).whole r.toNat (by omega) n h3 h4
      rw [show ((r.toNat : Nat) : Int) = r by omega] at hm
      exact mem_marks.2 ⟨_, List.getElem_mem hk, hm⟩
    · obtain ⟨k, hk, rfl⟩ := List.getElem_of_mem ha
      obtain ⟨h1, h2, h3, h4⟩ := (Clk.has_iff _ _ _).1 hh
      have hw := (h i hi).whole (l[k]'hk).r.toNat (by omega) _ h3 h4
      rw [show (((l[k]'hk).r.toNat : Nat) : Int) = (l[k]'hk).r by omega] at hw
      exact hw.first hk rfl (fun j hj hjk => (h k hk).first j hj hjk)
theorem right_refs {l : List Ev} (h : RightP l) (i : Nat) (hi : i < l.length) : RefE l i hi := by
  obtain ⟨h1, h2, h3⟩ := h
  have hm := List.getElem_mem hi
  refine ⟨h1 _ hm, fun k hk hki e => by have := h2.inj hk hi e; omega, fun r hr n hn1 hn2 => ?_, (h3 _ hm).2.1⟩
  have hh : (l[i]'hi).c.has r n = true := (Clk.has_iff _ _ _).2 ⟨by omega, by omega, hn1, by rw [Int.toNat_natCast]; exact hn2⟩
  obtain ⟨a, ha, e⟩ := mem_marks.1 (le_clockP.1 (h3 _ hm).1 _ _ hh)
  obtain ⟨k, hk, rfl⟩ := List.getElem_of_mem ha
  obtain ⟨e1, e2⟩ := mk_of e
  exact ⟨k, hk, e, fun j hj hjk e3 => by have := h2.inj hj hk (e3.trans e.symm); omega, (h3 _ hm).2.2 _ ha (by rw [e1, e2]; exact hh)⟩
set_option maxRecDepth 20000 attribute [local irreducible] Ex ExL Fn thn inb rnd fin meet Tab Mix mxEnd Val Sats RdT Rd RowT Row Blk Sub Fac ResV RVal Evs subs subs3 Hid Capd
set_option maxHeartbeats 8000000 in
theorem rright_F (v0 : Value) (l : List Ev) (M : List Assn) (hr : RdT M v0 l) (hl : l.length ≤ 1000000) (hh : ∀ e ∈ l, I64 e.h) (hc : ∀ e ∈ l, ∀ i, i < 5 → e.c.get i ≤ 1000000000) (hs : ∀ e ∈ l, e.ed.key.length ≤ 9223372036854775807 ∧ e.ed.value.length ≤ 9223372036854775807) : Fn Try.prog 22 #[v0] M fun v L' => (∃ b : Bool, (b = true ↔ RightP l) ∧ v = .bool b) ∧ L' = M := by
  refine Fn.of_ex Try.func22 rfl Try.ntmps22 rfl ?_
  (refine rn ?_; (repeat (first | intro (g : Nat) | intro (v : Value) | intro (o : Value.oneCell' _ = true) | intro (cs : List Value) | intro (hcs : _ = List.set _ _ _) | intro (zs : List _) | intro (hzs : _))))
  refine Ex.loop [3] (fun m vs L' => ∃ (i : Nat), i ≤ l.length ∧ m = l.length - i ∧ vs = [.int .i64 i] ∧ (∀ j (h : j < l.length), j < i → RefE l j h) ∧ L' = M) l.length ⟨0, by omega, by omega, rfl, fun j _ h => by omega, rfl⟩ ?_
  rintro m vs g1 L1 ⟨i, hi, rfl, rfl, hall, rfl⟩
  refine Ex.keep [0, 3] rG (fun gk => ?_)
  by_cases hlt : i < l.length
  · have hmem := List.getElem_mem hlt
    have hse := hs _ hmem
    have hno : ¬ RefE l i hlt → ∃ b : Bool, (b = true ↔ RightP l) ∧ Value.bool false = .bool b := fun h => no_right (fun k => h (right_refs k i hlt))
    have hnext : RefE l i hlt → ∀ j (h : j < l.length), j < i + 1 → RefE l j h := fun h j hj hji => by
      by_cases he : j = i
      · subst he; exact h
      · exact hall j hj (by omega)
    have hci := hc _ hmem
    clear hall
    (refine rn ?_; (repeat (first | intro (g : Nat) | intro (v : Value) | intro (o : Value.oneCell' _ = true) | intro (cs : List Value) | intro (hcs : _ = List.set _ _ _) | intro (zs : List _) | intro (hzs : _))))
    (refine Ex.mixA 22 _ rfl (by kernel_rfl) (Fac.refl _) ?_; (refine mn ?_; (repeat (first | intro (g : Nat) | intro (v : Value) | intro (o : Value.oneCell' _ = true) | intro (cs : List Value) | intro (hcs : _ = List.set _ _ _) | intro (zs : List _) | intro (hzs : _)))))
    (refine mx_act (by rfl) (by rfl) (by rfl) ?_; refine st_callIs [] (by rfl) Try.call38 rE (by rfl) (rmay_F (l[i]'hlt) _ hse.1 hse.2) ?_)
    rintro _ _ ⟨⟨x, hx, rfl⟩, rfl⟩
    by_cases hx0 : x = 0
    · have hmi := hx.1 hx0
      subst hx0
      clear hx
      (refine ExL.nil ?_; refine mxEnd_n rF ?_; (refine mn ?_; (repeat (first | intro (g : Nat) | intro (v : Value) | intro (o : Value.oneCell' _ = true) | intro (cs : List Value) | intro (hcs : _ = List.set _ _ _) | intro (zs : List _) | intro (hzs : _)))))
      (refine mx_act (by rfl) (by rfl) (by rfl) ?_; refine st_callIs [] (by rfl) Try.call39 rE (by rfl) (find_F v0 l (l[i]'hlt).r (l[i]'hlt).n _ rD hl) ?_)
      rintro _ _ ⟨⟨y, hy1, hy2, hy, rfl⟩, rfl⟩
      obtain ⟨q, rfl, hq, hqm, hqf⟩ : ∃ q : Nat, y = q ∧ ∃ h : q < l.length, (l[q]'h).mk_ = (l[i]'hlt).mk_ ∧ ∀ j (hj : j < l.length), j < q → (l[j]'hj).mk_ ≠ (l[i]'hlt).mk_ := by
        rcases hy with ⟨_, h⟩ | h
        · exact absurd (mem_marks_of hmem) h
        · exact h
      by_cases hqi : q = i
      · subst hqi
        (refine ExL.nil ?_; refine mxEnd_n rF ?_; (refine mn ?_; (repeat (first | intro (g : Nat) | intro (v : Value) | intro (o : Value.oneCell' _ = true) | intro (cs : List Value) | intro (hcs : _ = List.set _ _ _) | intro (zs : List _) | intro (hzs : _)))))
        (refine rn ?_; (repeat (first | intro (g : Nat) | intro (v : Value) | intro (o : Value.oneCell' _ = true) | intro (cs : List Value) | intro (hcs : _ = List.set _ _ _) | intro (zs : List _) | intro (hzs : _))))
        refine st_callIs [] (by rfl) Try.call40 (by rfl) (by rfl) (whole_F v0 l (l[q]'hlt).c _ rD hl hci) ?_
        rintro _ _ ⟨⟨b, hb, rfl⟩, rfl⟩
        cases b
        · have hw : ¬ RefE l q hlt := fun k => by have := hb.2 k.whole; cases this
          clear hnext hqf hb hy
          (refine rn ?_; (repeat (first | intro (g : Nat) | intro (v : Value) | intro (o : Value.oneCell' _ = true) | intro (cs : List Value) | intro (hcs : _ = List.set _ _ _) | intro (zs : List _) | intro (hzs : _))))
          (refine Ex.mixA 17 _ rfl (by kernel_rfl) (Fac.refl _) ?_; (refine mn ?_; (repeat (first | intro (g : Nat) | intro (v : Value) | intro (o : Value.oneCell' _ = true) | intro (cs : List Value) | intro (hcs : _ = List.set _ _ _) | intro (zs : List _) | intro (hzs : _)))))
          (refine rn ?_; (repeat (first | intro (g : Nat) | intro (v : Value) | intro (o : Value.oneCell' _ = true) | intro (cs : List Value) | intro (hcs : _ = List.set _ _ _) | intro (zs : List _) | intro (hzs : _))))
          (first | refine fin_ret rS ?_ | refine fin_norm rS ?_)
          exact ⟨_, rB, hno hw, rfl⟩
        · have hw := hb.1 rfl
          have hwh := wrap_h (c := (l[q]'hlt).c) hh hmi.h
          clear hb hy
          (refine rn ?_; (repeat (first | intro (g : Nat) | intro (v : Value) | intro (o : Value.oneCell' _ = true) | intro (cs : List Value) | intro (hcs : _ = List.set _ _ _) | intro (zs : List _) | intro (hzs : _))))
          (refine Ex.mixA 17 _ rfl (by kernel_rfl) (Fac.refl _) ?_; (refine mn ?_; (repeat (first | intro (g : Nat) | intro (v : Value) | intro (o : Value.oneCell' _ = true) | intro (cs : List Value) | intro (hcs : _ = List.set _ _ _) | intro (zs : List _) | intro (hzs : _)))))
          (refine mx_act (by rfl) (by rfl) (by rfl) ?_; refine st_callIs [] (by rfl) Try.call24 rE (by rfl) (heightW_F v0 l (l[q]'hlt).c _ rD hl hh) ?_)
          rintro _ _ ⟨rfl, rfl⟩
          by_cases hhe : (l[q]'hlt).h = IntKind.i64.wrap (heightP l (l[q]'hlt).c)
          · have hy := hnext ⟨hmi, hqf, hw, hwh.1 hhe⟩
            clear hnext hno hqf hw hwh hmi
            (refine ExL.nil ?_; refine mxEnd_n rF ?_; (refine mn ?_; (repeat (first | intro (g : Nat) | intro (v : Value) | intro (o : Value.oneCell' _ = true) | intro (cs : List Value) | intro (hcs : _ = List.set _ _ _) | intro (zs : List _) | intro (hzs : _)))))
            (refine rn ?_; (repeat (first | intro (g : Nat) | intro (v : Value) | intro (o : Value.oneCell' _ = true) | intro (cs : List Value) | intro (hcs : _ = List.set _ _ _) | intro (zs : List _) | intro (hzs : _))))
            exact rnd_n ⟨l.length - (q + 1), _, by omega, rB, q + 1, by omega, rfl, lcons (vint (by omega)) rfl, hy, rfl⟩
          · have hw2 : ¬ RefE l q hlt := fun k => hhe (hwh.2 k.high)
            clear hnext hqf hw hwh hmi
            (refine ExL.nil ?_; refine mxEnd_n rF ?_; (refine mn ?_; (repeat (first | intro (g : Nat) | intro (v : Value) | intro (o : Value.oneCell' _ = true) | intro (cs : List Value) | intro (hcs : _ = List.set _ _ _) | intro (zs : List _) | intro (hzs : _)))))
            (refine rn ?_; (repeat (first | intro (g : Nat) | intro (v : Value) | intro (o : Value.oneCell' _ = true) | intro (cs : List Value) | intro (hcs : _ = List.set _ _ _) | intro (zs : List _) | intro (hzs : _))))
            (first | refine fin_ret rS ?_ | refine fin_norm rS ?_)
            exact ⟨_, rB, hno hw2, rfl⟩
      · have hw : ¬ RefE l i hlt := fun k => by
          rcases Nat.lt_trichotomy q i with h | h | h
          · exact k.first q hq h hqm
          · exact hqi h
          · exact hqf i hlt h rfl
        clear hnext hqf hy hmi
        (refine ExL.nil ?_; refine mxEnd_n rF ?_; (refine mn ?_; (repeat (first | intro (g : Nat) | intro (v : Value) | intro (o : Value.oneCell' _ = true) | intro (cs : List Value) | intro (hcs : _ = List.set _ _ _) | intro (zs : List _) | intro (hzs : _)))))
        (refine rn ?_; (repeat (first | intro (g : Nat) | intro (v : Value) | intro (o : Value.oneCell' _ = true) | intro (cs : List Value) | intro (hcs : _ = List.set _ _ _) | intro (zs : List _) | intro (hzs : _))))
        (first | refine fin_ret rS ?_ | refine fin_norm rS ?_)
        exact ⟨_, rB, hno hw, rfl⟩
    · have hw : ¬ RefE l i hlt := fun k => hx0 (hx.2 k.may)
      clear hnext hx
      (refine ExL.nil ?_; refine mxEnd_n rF ?_; (refine mn ?_; (repeat (first | intro (g : Nat) | intro (v : Value) | intro (o : Value.oneCell' _ = true) | intro (cs : List Value) | intro (hcs : _ = List.set _ _ _) | intro (zs : List _) | intro (hzs : _)))))
      (refine rn ?_; (repeat (first | intro (g : Nat) | intro (v : Value) | intro (o : Value.oneCell' _ = true) | intro (cs : List Value) | intro (hcs : _ = List.set _ _ _) | intro (zs : List _) | intro (hzs : _))))
      (first | refine fin_ret rS ?_ | refine fin_norm rS ?_)
      exact ⟨_, rB, hno hw, rfl⟩
  · obtain rfl : i = l.length := by omega
    (refine rn ?_; (repeat (first | intro (g : Nat) | intro (v : Value) | intro (o : Value.oneCell' _ = true) | intro (cs : List Value) | intro (hcs : _ = List.set _ _ _) | intro (zs : List _) | intro (hzs : _))))
    (first | refine fin_ret rS ?_ | refine fin_norm rS ?_)
    exact ⟨_, rB, ⟨true, ⟨fun _ => refs_right fun j hj => hall j hj hj, fun _ => rfl⟩, rfl⟩, rfl⟩
end Go.Proofs.Ytcclbplccnaonaa
/- kithref08.Sort, walked. No condition. -/
namespace Go.Proofs.Ytcclbplccnaonaa
open Go.RowKit
set_option linter.unusedSimpArgs false
set_option linter.unusedVariables false
/-- The beginning of a row of one's own is one, too. -/
theorem row_pre {α : Type} [Rep α] {v : Value} {e : TypeId} {xs : List α} {sz : Nat} (k : Nat) (M : List Assn) (hsz : Rep.sz α = sz) (hk : k ≤ xs.length) : Sub (RowT (subs v 0 k sz) e (xs.take k) :: M) (RowT v e xs :: M) := fun w F ⟨h, hrow, hd, hs⟩ => by
  subst hsz
  refine ⟨h, ?_, hd, hs⟩
  obtain ⟨hl, hrow⟩ := hrow
  have hlk : (xs.take k).length = k := by rw [List.length_take]; omega
  refine ⟨by rw [cellsOf_len], ?_⟩
  rw [hlk]
  rcases hrow with ⟨h0, ⟨b, rfl⟩, rfl⟩ | ⟨g, cap, cur, rfl, rfl, h1, h2, h3, h4⟩
  · left
    have hk0 : k = 0 := by omega
    subst hk0
    exact ⟨rfl, ⟨b, by simp [subs]⟩, rfl⟩
  · right
    refine ⟨g, cap, cur, ?_, rfl, by omega, h2, h3, ?_⟩
    · simp only [subs, Nat.zero_mul, Nat.sub_zero]
      split
      · rfl
      · simp [addr_add]
    · rw [← cellsOf_take, ← h4, List.take_take]
      congr 1
      have : k * Rep.sz α ≤ xs.length * Rep.sz α := Nat.mul_le_mul_right _ hk
      omega
theorem ins_pos {x : Ev} {out : List Ev} (hs : Srt out) {k : Nat} (hk : k ≤ out.length) (h1 : ∀ j (h : j < out.length), k ≤ j → stLt x (out[j]'h) = true) (h2 : ∀ h : k - 1 < out.length, 0 < k → stLt x (out[k - 1]'h) = false) : ins x out = out.take k ++ x :: out.drop k := by
  have e : out.take k ++ out.drop k = out := List.take_append_drop ..
  have h := ins_at x (pre := out.take k) (suf := out.drop k) (fun y hy => ?_) (fun y hy => ?_)
  · rwa [e] at h
  · obtain ⟨j, hj, rfl⟩ := List.getElem_of_mem hy
    rw [List.length_take] at hj
    rw [List.getElem_take]
    have hk0 : 0 < k := by omega
    have h3 := h2 (by omega) hk0
    by_cases he : j = k - 1
    · subst he; exact h3
    · have h4 := (List.pairwise_iff_getElem.1 hs) j (k - 1) (by omega) (by omega) (by omega)
      exact stLt_ge h3 h4
  · have hl : k < out.length := by
      refine Classical.byContradiction fun hc => ?_
      rw [List.drop_eq_nil_of_le (by omega)] at hy
      cases hy
    rw [List.drop_eq_getElem_cons hl] at hy
    simp only [List.head?_cons, Option.some.injEq] at hy
    subst hy
    exact h1 k hl (Nat.le_refl _)
/-- A slice has room for what it has. -/
theorem Ex.capd {P : Program} {n : Nat} {c : Code} {Q : Post} {f : Nat → Value} {L : List Assn} {α : Type} [Rep α] {v : Value} {xs : List α} (hr : RdT L v xs) (h : Capd v xs.length → Ex P n c Q f L) : Ex P n c Q f L :=
  fun D F w0 f0 ws a w H hc => h (hr.capd w F H.2.2.1) D F w0 f0 ws a w H hc
set_option maxRecDepth 20000 attribute [local irreducible] Ex ExL Fn thn inb rnd fin meet Tab Mix mxEnd Val Sats RdT Rd RowT Row Blk Sub Fac ResV RVal Evs subs subs3 Hid Capd
theorem rless4_F (h1 r1 h2 r2 : Int) (M : List Assn) : Fn Try.prog 42 #[.agg #[.int .i64 h1, .int .i64 r1], .agg #[.int .i64 h2, .int .i64 r2]] M fun v L' => v = .bool (decide (h1 < h2 ∨ (h1 = h2 ∧ r1 < r2))) ∧ L' = M := by
  refine Fn.of_ex Try.func42 rfl Try.ntmps42 rfl ?_
  by_cases e : h1 = h2
  · by_cases hr : r1 < r2
    · rw [decide_eq_true (.inr ⟨e, hr⟩ : h1 < h2 ∨ (h1 = h2 ∧ r1 < r2))]
      (refine rn ?_; (repeat (first | intro (g : Nat) | intro (v : Value) | intro (o : Value.oneCell' _ = true) | intro (cs : List Value) | intro (hcs : _ = List.set _ _ _) | intro (zs : List _) | intro (hzs : _))))
      (first | refine fin_ret rS ?_ | refine fin_norm rS ?_)
      exact ⟨_, rB, rfl, rfl⟩
    · rw [decide_eq_false (by omega : ¬ (h1 < h2 ∨ (h1 = h2 ∧ r1 < r2)))]
      (refine rn ?_; (repeat (first | intro (g : Nat) | intro (v : Value) | intro (o : Value.oneCell' _ = true) | intro (cs : List Value) | intro (hcs : _ = List.set _ _ _) | intro (zs : List _) | intro (hzs : _))))
      (first | refine fin_ret rS ?_ | refine fin_norm rS ?_)
      exact ⟨_, rB, rfl, rfl⟩
  · by_cases hh : h1 < h2
    · rw [decide_eq_true (.inl hh : h1 < h2 ∨ (h1 = h2 ∧ r1 < r2))]
      (refine rn ?_; (repeat (first | intro (g : Nat) | intro (v : Value) | intro (o : Value.oneCell' _ = true) | intro (cs : List Value) | intro (hcs : _ = List.set _ _ _) | intro (zs : List _) | intro (hzs : _))))
      (first | refine fin_ret rS ?_ | refine fin_norm rS ?_)
      exact ⟨_, rB, rfl, rfl⟩
    · rw [decide_eq_false (by omega : ¬ (h1 < h2 ∨ (h1 = h2 ∧ r1 < r2)))]
      (refine rn ?_; (repeat (first | intro (g : Nat) | intro (v : Value) | intro (o : Value.oneCell' _ = true) | intro (cs : List Value) | intro (hcs : _ = List.set _ _ _) | intro (zs : List _) | intro (hzs : _))))
      (first | refine fin_ret rS ?_ | refine fin_norm rS ?_)
      exact ⟨_, rB, rfl, rfl⟩
set_option maxHeartbeats 8000000 in
theorem rsort_F (v0 : Value) (l : List Ev) (M : List Assn) (hr : RdT M v0 l) (hl : l.length ≤ 1000000) : Fn Try.prog 26 #[v0] M fun v L' => v.oneCell' = true ∧ L' = Evs_ v (sortP l) :: M := by
  refine Fn.of_ex Try.func26 rfl Try.ntmps26 rfl ?_
  (refine rn ?_; (repeat (first | intro (g : Nat) | intro (v : Value) | intro (o : Value.oneCell' _ = true) | intro (cs : List Value) | intro (hcs : _ = List.set _ _ _) | intro (zs : List _) | intro (hzs : _))))
  refine Ex.sub (L' := Evs_ (.slice (some ⟨g, 0, none⟩) 0 0) [] :: M) ?_ (Sub.empty (α := Ev) (some ⟨g, 0, none⟩) 31 _)
  refine Ex.loop [3, 4] (fun m vs L' => ∃ (i : Nat) (v3 : Value), i ≤ l.length ∧ m = l.length - i ∧ v3.oneCell' = true ∧ vs = [v3, .int .i64 i] ∧ L' = Evs_ v3 (sortP (l.take i)) :: M) l.length ⟨0, _, by omega, by omega, rfl, rfl, rfl⟩ ?_
  rintro m vs g1 L' ⟨i, v3, hi, rfl, o3, rfl, rfl⟩
  refine Ex.keep [0, 3, 4] rG (fun gk => ?_)
  by_cases hlt : i < l.length
  · have hnext : sortP (l.take (i + 1)) = ins (l[i]'hlt) (sortP (l.take i)) := by rw [List.take_succ_eq_append_getElem hlt, sortP_snoc]
    have hsl : (sortP (l.take i)).length = i := by rw [(sortP_perm _).length_eq, List.length_take]; omega
    have hsr := sortP_srt (l.take i)
    generalize sortP (l.take i) = out at hnext hsl hsr ⊢
    obtain ⟨x, hx⟩ : ∃ x, x = l[i]'hlt := ⟨_, rfl⟩
    rw [← hx] at hnext
    (refine rn ?_; (repeat (first | intro (g : Nat) | intro (v : Value) | intro (o : Value.oneCell' _ = true) | intro (cs : List Value) | intro (hcs : _ = List.set _ _ _) | intro (zs : List _) | intro (hzs : _))))
    refine Ex.loop [5] (fun m vs L' => ∃ (k : Nat), k ≤ out.length ∧ m = k ∧ vs = [.int .i64 k] ∧ (∀ j (h : j < out.length), k ≤ j → stLt x (out[j]'h) = true) ∧ L' = Evs_ v3 out :: M) out.length ⟨out.length, by omega, rfl, rfl, fun j h1 h2 => by omega, rfl⟩ ?_
    rintro k vs g2 L' ⟨_, hk, rfl, rfl, hall, rfl⟩
    refine Ex.keep [0, 3, 4, 5] rG (fun gk => ?_)
    have hcs : (∃ hq : ((k : Int) - 1).toNat < out.length, 0 < k ∧ stLt x (out[((k : Int) - 1).toNat]'hq) = true) ∨ (ins x out = out.take k ++ x :: out.drop k ∧ ∃ hq : ((k : Int) - 1).toNat < out.length, 0 < k ∧ stLt x (out[((k : Int) - 1).toNat]'hq) = false) ∨ (ins x out = out.take k ++ x :: out.drop k ∧ k = 0) := by
      have hqk : ((k : Int) - 1).toNat = k - 1 := by omega
      by_cases hk0 : 0 < k
      · have hq : k - 1 < out.length := by omega
        simp only [hqk]
        cases hb : stLt x (out[k - 1]'hq)
        · exact .inr (.inl ⟨ins_pos hsr hk hall (fun _ _ => hb), hq, hk0, hb⟩)
        · exact .inl ⟨hq, hk0, hb⟩
      · exact .inr (.inr ⟨ins_pos hsr hk hall (fun _ h => absurd h hk0), by omega⟩)
    rcases hcs with ⟨hq, hk0, hb⟩ | ⟨hins, hq, hk0, hb⟩ | ⟨hins, hk0⟩
    · have hall2 : ∀ j (h : j < out.length), k - 1 ≤ j → stLt x (out[j]'h) = true := fun j hj hkj => by
        by_cases he : j = k - 1
        · subst he; simp only [show ((k : Int) - 1).toNat = k - 1 by omega] at hb; exact hb
        · exact hall j hj (by omega)
      unfold stLt at hb
      clear hall
      (refine rn ?_; (repeat (first | intro (g : Nat) | intro (v : Value) | intro (o : Value.oneCell' _ = true) | intro (cs : List Value) | intro (hcs : _ = List.set _ _ _) | intro (zs : List _) | intro (hzs : _))))
      (refine Ex.mixA 29 _ rfl (by kernel_rfl) (Fac.refl _) ?_; (refine mn ?_; (repeat (first | intro (g : Nat) | intro (v : Value) | intro (o : Value.oneCell' _ = true) | intro (cs : List Value) | intro (hcs : _ = List.set _ _ _) | intro (zs : List _) | intro (hzs : _)))))
      rw [← hx]
      (refine mx_act (by rfl) (by rfl) (by rfl) ?_; refine st_callIs [] (by rfl) Try.call42 rE (by rfl) (rless4_F x.h x.r (out[((k : Int) - 1).toNat]'hq).h (out[((k : Int) - 1).toNat]'hq).r _) ?_)
      rintro _ _ ⟨rfl, rfl⟩
      rw [hb]
      (refine ExL.nil ?_; refine mxEnd_n rF ?_; (refine mn ?_; (repeat (first | intro (g : Nat) | intro (v : Value) | intro (o : Value.oneCell' _ = true) | intro (cs : List Value) | intro (hcs : _ = List.set _ _ _) | intro (zs : List _) | intro (hzs : _)))))
      (refine rn ?_; (repeat (first | intro (g : Nat) | intro (v : Value) | intro (o : Value.oneCell' _ = true) | intro (cs : List Value) | intro (hcs : _ = List.set _ _ _) | intro (zs : List _) | intro (hzs : _))))
      exact rnd_n ⟨k - 1, _, by omega, rB, k - 1, by omega, rfl, lcons (vint (by omega)) rfl, hall2, rfl⟩
    focus
      unfold stLt at hb
      clear hall
      (refine rn ?_; (repeat (first | intro (g : Nat) | intro (v : Value) | intro (o : Value.oneCell' _ = true) | intro (cs : List Value) | intro (hcs : _ = List.set _ _ _) | intro (zs : List _) | intro (hzs : _))))
      (refine Ex.mixA 29 _ rfl (by kernel_rfl) (Fac.refl _) ?_; (refine mn ?_; (repeat (first | intro (g : Nat) | intro (v : Value) | intro (o : Value.oneCell' _ = true) | intro (cs : List Value) | intro (hcs : _ = List.set _ _ _) | intro (zs : List _) | intro (hzs : _)))))
      rw [← hx]
      (refine mx_act (by rfl) (by rfl) (by rfl) ?_; refine st_callIs [] (by rfl) Try.call42 rE (by rfl) (rless4_F x.h x.r (out[((k : Int) - 1).toNat]'hq).h (out[((k : Int) - 1).toNat]'hq).r _) ?_)
      rintro _ _ ⟨rfl, rfl⟩
      rw [hb]
      (refine ExL.nil ?_; refine mxEnd_n rF ?_; (refine mn ?_; (repeat (first | intro (g : Nat) | intro (v : Value) | intro (o : Value.oneCell' _ = true) | intro (cs : List Value) | intro (hcs : _ = List.set _ _ _) | intro (zs : List _) | intro (hzs : _)))))
      (refine rn ?_; (repeat (first | intro (g : Nat) | intro (v : Value) | intro (o : Value.oneCell' _ = true) | intro (cs : List Value) | intro (hcs : _ = List.set _ _ _) | intro (zs : List _) | intro (hzs : _))))
    rotate_left
    focus
      clear hall
      (refine rn ?_; (repeat (first | intro (g : Nat) | intro (v : Value) | intro (o : Value.oneCell' _ = true) | intro (cs : List Value) | intro (hcs : _ = List.set _ _ _) | intro (zs : List _) | intro (hzs : _))))
      (refine Ex.mixA 29 _ rfl (by kernel_rfl) (Fac.refl _) ?_; (refine mn ?_; (repeat (first | intro (g : Nat) | intro (v : Value) | intro (o : Value.oneCell' _ = true) | intro (cs : List Value) | intro (hcs : _ = List.set _ _ _) | intro (zs : List _) | intro (hzs : _)))))
      (refine rn ?_; (repeat (first | intro (g : Nat) | intro (v : Value) | intro (o : Value.oneCell' _ = true) | intro (cs : List Value) | intro (hcs : _ = List.set _ _ _) | intro (zs : List _) | intro (hzs : _))))
    all_goals
      revert o
      revert v
      intro v6 o6
      have hkn : (k : Int).toNat = k := by omega
      rw [hkn]
      have htk : (out.take k).length = k := by rw [List.length_take]; omega
      refine Ex.sub (L' := Evs_ v3 out :: Evs_ v6 (out.drop k) :: M) ?_ (Sub.fr [1] rfl rB)
      refine Ex.keep [0, 3, 4, 5, 6] rG (fun gk => ?_)
      refine Ex.capd (v := v3) (xs := out) rD (fun hc3 => ?_)
      refine Ex.sub (L' := Evs_ (subs v3 0 k 12) (out.take k) :: Evs_ v6 (out.drop k) :: M) ?_ (row_pre (sz := 12) k _ rfl hk)
      (refine Ex.mixA 11 (Evs_ v6 (out.drop k) :: M) rfl (by kernel_rfl) rF ?_; (refine mn ?_; (repeat (first | intro (g : Nat) | intro (v : Value) | intro (o : Value.oneCell' _ = true) | intro (cs : List Value) | intro (hcs : _ = List.set _ _ _) | intro (zs : List _) | intro (hzs : _)))))
      (refine rn ?_; (repeat (first | intro (g : Nat) | intro (v : Value) | intro (o : Value.oneCell' _ = true) | intro (cs : List Value) | intro (hcs : _ = List.set _ _ _) | intro (zs : List _) | intro (hzs : _))))
      rw [← hx]
      exact rnd_n ⟨l.length - (i + 1), Evs_ v (sortP (l.take (i + 1))) :: M, by omega, by rw [hnext, hins, show out.take k ++ x :: out.drop k = out.take k ++ [x] ++ out.drop k by simp]; exact rB, i + 1, v, by omega, rfl, by assumption, lcons rfl (lcons (vint (by omega)) rfl), rfl⟩
  · obtain rfl : i = l.length := by omega
    rw [List.take_length]
    (refine rn ?_; (repeat (first | intro (g : Nat) | intro (v : Value) | intro (o : Value.oneCell' _ = true) | intro (cs : List Value) | intro (hcs : _ = List.set _ _ _) | intro (zs : List _) | intro (hzs : _))))
    (first | refine fin_ret rS ?_ | refine fin_norm rS ?_)
    exact ⟨_, rB, o3, rfl⟩
end Go.Proofs.Ytcclbplccnaonaa
/- PastAll, walked. No condition. -/
namespace Go.Proofs.Ytcclbplccnaonaa
open Go.RowKit
set_option linter.unusedSimpArgs false
set_option linter.unusedVariables false
theorem bool_same {a b : Bool} {p : Prop} (h : a = true ↔ p) (k : b = true ↔ p) : a = b := by
  cases a <;> cases b
  · rfl
  · exact absurd (h.2 (k.1 rfl)) (by decide)
  · exact absurd (k.2 (h.1 rfl)) (by decide)
  · rfl
set_option maxRecDepth 20000 attribute [local irreducible] Ex ExL Fn thn inb rnd fin meet Tab Mix mxEnd Val Sats RdT Rd RowT Row Blk Sub Fac ResV RVal Evs subs subs3 Hid Capd
set_option maxHeartbeats 8000000 in
theorem pastAll_fn (va : Value) (l : List Ev) (c : Clk) (W : World) (hl : l.length ≤ 140737488355328) (hr : RdT [Base W] va l) (hh0 : ∀ e ∈ l, I64 e.h) (hs0 : ∀ e ∈ l, e.ed.key.length ≤ 9223372036854775807 ∧ e.ed.value.length ≤ 9223372036854775807) :
    Fn Try.prog 8 #[va, c.val] [Base W] fun v L' => v = .bool true ∧ L' = [Base W] := by
  refine Fn.of_ex Try.func8 rfl Try.ntmps8 rfl ?_
  (refine rn ?_; (repeat (first | intro (g : Nat) | intro (v : Value) | intro (o : Value.oneCell' _ = true) | intro (cs : List Value) | intro (hcs : _ = List.set _ _ _) | intro (zs : List _) | intro (hzs : _))))
  revert g
  intro g3
  (refine st_callIs [] (by rfl) Try.call10 (by rfl) (by rfl) (shown8_fn _) ?_; rintro _ _ ⟨rfl, rfl⟩)
  (refine rn ?_; (repeat (first | intro (g : Nat) | intro (v : Value) | intro (o : Value.oneCell' _ = true) | intro (cs : List Value) | intro (hcs : _ = List.set _ _ _) | intro (zs : List _) | intro (hzs : _))))
  refine st_callIs [] (by rfl) Try.call19 (by rfl) (by rfl) (few8_F va l _ rD) ?_
  rintro v6 _ ⟨o6, w, hwl, hw, rfl⟩
  have hh : ∀ e ∈ w, I64 e.h := fun e he => by
    obtain ⟨_, e0, h0, k, rfl⟩ := hw e he
    exact hh0 e0 h0
  have hs : ∀ e ∈ w, e.ed.key.length ≤ 9223372036854775807 ∧ e.ed.value.length ≤ 9223372036854775807 := fun e he => by
    obtain ⟨_, e0, h0, k, rfl⟩ := hw e he
    exact hs0 e0 h0
  have hc : ∀ e ∈ w, ∀ i, i < 5 → e.c.get i ≤ 1000000000 := fun e he i hi => by
    obtain ⟨h, _⟩ := hw e he
    obtain ⟨h1, h2, h3, h4, h5⟩ := h
    match i, hi with
    | 0, _ => show e.c.a ≤ _; omega
    | 1, _ => show e.c.b ≤ _; omega
    | 2, _ => show e.c.c ≤ _; omega
    | 3, _ => show e.c.d ≤ _; omega
    | 4, _ => show e.c.e ≤ _; omega
  have hl6 : w.length ≤ 1000000 := by omega
  clear hw
  (refine rn ?_; (repeat (first | intro (g : Nat) | intro (v : Value) | intro (o : Value.oneCell' _ = true) | intro (cs : List Value) | intro (hcs : _ = List.set _ _ _) | intro (zs : List _) | intro (hzs : _))))
  (refine Ex.mixA 38 _ rfl (by kernel_rfl) (Fac.refl _) ?_; (refine mn ?_; (repeat (first | intro (g : Nat) | intro (v : Value) | intro (o : Value.oneCell' _ = true) | intro (cs : List Value) | intro (hcs : _ = List.set _ _ _) | intro (zs : List _) | intro (hzs : _)))))
  (refine mx_act (by rfl) (by rfl) (by rfl) ?_; refine st_callIs [] (by rfl) Try.call14 rE (by rfl) (right_F v6 w _ rD hl6 hh hs) ?_)
  rintro _ _ ⟨⟨b1, hb1, rfl⟩, rfl⟩
  (refine ExL.nil ?_; refine mxEnd_n rF ?_; (refine mn ?_; (repeat (first | intro (g : Nat) | intro (v : Value) | intro (o : Value.oneCell' _ = true) | intro (cs : List Value) | intro (hcs : _ = List.set _ _ _) | intro (zs : List _) | intro (hzs : _)))))
  (refine mx_act (by rfl) (by rfl) (by rfl) ?_; refine st_callIs [] (by rfl) Try.call22 rE (by rfl) (rright_F v6 w _ rD hl6 hh hc hs) ?_)
  rintro _ _ ⟨⟨b2, hb2, rfl⟩, rfl⟩
  obtain rfl := bool_same hb1 hb2
  clear hb1 hb2
  cases b1
  all_goals
    (refine ExL.nil ?_; refine mxEnd_n rF ?_; (refine mn ?_; (repeat (first | intro (g : Nat) | intro (v : Value) | intro (o : Value.oneCell' _ = true) | intro (cs : List Value) | intro (hcs : _ = List.set _ _ _) | intro (zs : List _) | intro (hzs : _)))))
    (refine mx_act (by rfl) (by rfl) (by rfl) ?_; refine st_callIs [] (by rfl) Try.call15 rE (by rfl) (ordered_F v6 w _ rD hl6) ?_)
    rintro _ _ ⟨⟨b1, hb1, rfl⟩, rfl⟩
    (refine ExL.nil ?_; refine mxEnd_n rF ?_; (refine mn ?_; (repeat (first | intro (g : Nat) | intro (v : Value) | intro (o : Value.oneCell' _ = true) | intro (cs : List Value) | intro (hcs : _ = List.set _ _ _) | intro (zs : List _) | intro (hzs : _)))))
    (refine mx_act (by rfl) (by rfl) (by rfl) ?_; refine st_callIs [] (by rfl) Try.call23 rE (by rfl) (rordered_F v6 w _ rD hl6 hc) ?_)
    rintro _ _ ⟨⟨b2, hb2, rfl⟩, rfl⟩
    obtain rfl := bool_same hb1 hb2
    clear hb1 hb2
    cases b1
    all_goals
      (refine ExL.nil ?_; refine mxEnd_n rF ?_; (refine mn ?_; (repeat (first | intro (g : Nat) | intro (v : Value) | intro (o : Value.oneCell' _ = true) | intro (cs : List Value) | intro (hcs : _ = List.set _ _ _) | intro (zs : List _) | intro (hzs : _)))))
      (refine mx_act (by rfl) (by rfl) (by rfl) ?_; refine st_callIs [] (by rfl) Try.call18 rE (by rfl) (pheight_F v6 w c _ rD hl6 hh) ?_)
      rintro _ _ ⟨rfl, rfl⟩
      (refine ExL.nil ?_; refine mxEnd_n rF ?_; (refine mn ?_; (repeat (first | intro (g : Nat) | intro (v : Value) | intro (o : Value.oneCell' _ = true) | intro (cs : List Value) | intro (hcs : _ = List.set _ _ _) | intro (zs : List _) | intro (hzs : _)))))
      (refine mx_act (by rfl) (by rfl) (by rfl) ?_; refine st_callIs [] (by rfl) Try.call24 rE (by rfl) (heightW_F v6 w c _ rD hl6 hh) ?_)
      rintro _ _ ⟨rfl, rfl⟩
      generalize IntKind.i64.wrap (heightP w c) = H
      (refine ExL.nil ?_; refine mxEnd_n rF ?_; (refine mn ?_; (repeat (first | intro (g : Nat) | intro (v : Value) | intro (o : Value.oneCell' _ = true) | intro (cs : List Value) | intro (hcs : _ = List.set _ _ _) | intro (zs : List _) | intro (hzs : _)))))
      (refine mx_act (by rfl) (by rfl) (by rfl) ?_; refine st_callIs [] (by rfl) Try.call17 rE (by rfl) (pclock_F v6 w _ rD hl6) ?_)
      rintro _ _ ⟨rfl, rfl⟩
      (refine ExL.nil ?_; refine mxEnd_n rF ?_; (refine mn ?_; (repeat (first | intro (g : Nat) | intro (v : Value) | intro (o : Value.oneCell' _ = true) | intro (cs : List Value) | intro (hcs : _ = List.set _ _ _) | intro (zs : List _) | intro (hzs : _)))))
      (refine mx_act (by rfl) (by rfl) (by rfl) ?_; refine st_callIs [] (by rfl) Try.call25 rE (by rfl) (rclock_F v6 w _ rD hl6) ?_)
      rintro _ _ ⟨rfl, rfl⟩
      (refine ExL.nil ?_; refine mxEnd_n rF ?_; (refine mn ?_; (repeat (first | intro (g : Nat) | intro (v : Value) | intro (o : Value.oneCell' _ = true) | intro (cs : List Value) | intro (hcs : _ = List.set _ _ _) | intro (zs : List _) | intro (hzs : _)))))
      (refine mx_act (by rfl) (by rfl) (by rfl) ?_; refine st_callIs [] (by rfl) Try.call20 rE (by rfl) (psort_F v6 w _ rD (by omega)) ?_)
      rintro v7 _ ⟨o7, rfl⟩
      (refine ExL.nil ?_; refine mxEnd_n rF ?_; (refine mn ?_; (repeat (first | intro (g : Nat) | intro (v : Value) | intro (o : Value.oneCell' _ = true) | intro (cs : List Value) | intro (hcs : _ = List.set _ _ _) | intro (zs : List _) | intro (hzs : _)))))
      (refine mx_act (by rfl) (by rfl) (by rfl) ?_; refine st_callIs [] (by rfl) Try.call26 rE (by rfl) (rsort_F v6 w _ rD hl6) ?_)
      rintro v8 _ ⟨o8, rfl⟩
      have hsl := sortP_len w
      generalize sortP w = so at hsl ⊢
      (refine ExL.nil ?_; refine mxEnd_n rF ?_; (refine mn ?_; (repeat (first | intro (g : Nat) | intro (v : Value) | intro (o : Value.oneCell' _ = true) | intro (cs : List Value) | intro (hcs : _ = List.set _ _ _) | intro (zs : List _) | intro (hzs : _)))))
      (refine mx_act (by rfl) (by rfl) (by rfl) ?_; refine st_callIs [] (by rfl) Try.call21 rE (by rfl) (same_fn v7 v8 so _ rD rD (by omega)) ?_)
      rintro _ _ ⟨rfl, rfl⟩
      (refine ExL.nil ?_; refine mxEnd_n rF ?_; (refine mn ?_; (repeat (first | intro (g : Nat) | intro (v : Value) | intro (o : Value.oneCell' _ = true) | intro (cs : List Value) | intro (hcs : _ = List.set _ _ _) | intro (zs : List _) | intro (hzs : _)))))
      (refine rn ?_; (repeat (first | intro (g : Nat) | intro (v : Value) | intro (o : Value.oneCell' _ = true) | intro (cs : List Value) | intro (hcs : _ = List.set _ _ _) | intro (zs : List _) | intro (hzs : _))))
      (first | refine fin_ret rS ?_ | refine fin_norm rS ?_)
      exact ⟨_, rB, rfl, rfl⟩
end Go.Proofs.Ytcclbplccnaonaa
/- Events among the arguments. No condition. -/
namespace Go.Proofs.Ytcclbplccnaonaa
open Go.ChangeShapes Go.WideShapes Go.ChangeAt Go.RowKit
set_option linter.unusedSimpArgs false
set_option linter.unusedVariables false
set_option maxRecDepth 20000
/-- A text. -/
theorem okT_txt {H : Type} {enc : TypeId × Value → H} {P : Program} {w : World} {t : TypeId} {cs : List Value} (hu : P.underlying t = some .string) (h : OkT enc P w t cs) : ∃ l : List UInt8, cs = [.string (S l)] ∧ l.length ≤ 140737488351232 := by
  obtain ⟨l, e, h⟩ := okT_string hu h
  exact ⟨l, e, by unfold reachBytes at h; omega⟩
/-- What is known of an event that came in. -/
structure Ev.Ok (e : Ev) : Prop where
  r : I64 e.r
  n : I64 e.n
  c : I64 e.c.a ∧ I64 e.c.b ∧ I64 e.c.c ∧ I64 e.c.d ∧ I64 e.c.e
  h : I64 e.h
  kind : I64 e.ed.kind
  label : I64 e.ed.label
  key : e.ed.key.length ≤ 140737488351232
  value : e.ed.value.length ≤ 140737488351232
theorem okT_ev {H : Type} {enc : TypeId × Value → H} {w : World} {cs : List Value} (h : OkT enc Try.prog w 31 cs) : ∃ e : Ev, cs = Rep.cells e ∧ e.Ok := by
  obtain ⟨hl, hf⟩ := okT_struct Try.underlying31 h
  have hl : cs.length = 12 := hl
  obtain ⟨r, e1, i1⟩ := okT_i64 (by kernel_rfl) (hf 0 _ rfl)
  obtain ⟨n, e2, i2⟩ := okT_i64 (by kernel_rfl) (hf 1 _ rfl)
  obtain ⟨xs, e3, i3, i4⟩ := okT_arrayL (α := Int) (e := 3) (n := 5) (fun n => I64 n) (by kernel_rfl) (by kernel_rfl) (by kernel_rfl) (fun ecs h => by obtain ⟨n, e, i⟩ := okT_i64 (by kernel_rfl) h; exact ⟨n, e, i⟩) (hf 2 _ rfl)
  obtain ⟨hh, e4, i5⟩ := okT_i64 (by kernel_rfl) (hf 3 _ rfl)
  obtain ⟨k, e5, i6⟩ := okT_i64 (by kernel_rfl) (hf 4 _ rfl)
  obtain ⟨key, e6, i7⟩ := okT_txt (by kernel_rfl) (hf 5 _ rfl)
  obtain ⟨lb, e7, i8⟩ := okT_i64 (by kernel_rfl) (hf 6 _ rfl)
  obtain ⟨val, e8, i9⟩ := okT_txt (by kernel_rfl) (hf 7 _ rfl)
  match cs, hl, xs, i3 with
  | [x0, x1, x2, x3, x4, x5, x6, x7, x8, x9, x10, x11], _, [c0, c1, c2, c3, c4], _ =>
    have e1 : [x0] = [Value.int .i64 r] := e1
    have e2 : [x1] = [Value.int .i64 n] := e2
    have e3 : [x2, x3, x4, x5, x6] = [Value.int .i64 c0, Value.int .i64 c1, Value.int .i64 c2, Value.int .i64 c3, Value.int .i64 c4] := e3
    have e4 : [x7] = [Value.int .i64 hh] := e4
    have e5 : [x8] = [Value.int .i64 k] := e5
    have e6 : [x9] = [Value.string (S key)] := e6
    have e7 : [x10] = [Value.int .i64 lb] := e7
    have e8 : [x11] = [Value.string (S val)] := e8
    cases e1; cases e2; cases e3; cases e4; cases e5; cases e6; cases e7; cases e8
    exact ⟨⟨r, n, ⟨c0, c1, c2, c3, c4⟩, hh, ⟨k, key, lb, val⟩⟩, rfl, i1, i2, ⟨i4 c0 (by simp), i4 c1 (by simp), i4 c2 (by simp), i4 c3 (by simp), i4 c4 (by simp)⟩, i5, i6, i8, i7, i9⟩
/-- A slice of events. -/
theorem okT_evs {H : Type} {enc : TypeId × Value → H} {w : World} {cs : List Value} (h : OkT enc Try.prog w 25 cs) :
    ∃ v, ∃ l : List Ev, cs = [v] ∧ v.oneCell' = true ∧ Sl w v 12 l.length (cellsOf l) ∧ (∀ e ∈ l, e.Ok) ∧ l.length ≤ 140737488351232 := by
  obtain ⟨v, xs, h1, h2, h3, h4, h5⟩ := okT_list (α := Ev) Ev.Ok Try.underlying25 (by kernel_rfl) (fun ecs h => okT_ev h) h
  refine ⟨v, xs, h1, h2, h3, h4, ?_⟩
  have hb : Try.prog.bytesOf 31 = 112 := by kernel_rfl
  rw [hb] at h5
  simp [reachBytes] at h5
  omega
end Go.Proofs.Ytcclbplccnaonaa
/- Clocks among the arguments. No condition. -/
namespace Go.Proofs.Ytcclbplccnaonaa
open Go.ChangeShapes Go.WideShapes Go.ChangeAt Go.RowKit
set_option linter.unusedSimpArgs false
set_option linter.unusedVariables false
theorem okT_clk {H : Type} {enc : TypeId × Value → H} {P : Program} {w : World} {t e : TypeId} {cs : List Value} (hu : P.underlying t = some (.array 5 e)) (hc : P.cellsOf t = 5) (hu2 : P.underlying e = some (.int .i64)) (hc2 : P.cellsOf e = 1) (h : OkT enc P w t cs) : ∃ c : Clk, cs = Rep.cells c ∧ ∀ i, i < 5 → I64 (c.get i) := by
  obtain ⟨xs, e, hl, hg⟩ := okT_arrayL (α := Int) I64 hu (by rw [hc2]; rfl) (by rw [hc]; rfl) (fun ecs h => okT_i64 hu2 h) h
  match xs, hl with
  | [a, b, c, d, f], _ => exact ⟨⟨a, b, c, d, f⟩, e, fun i hi => by
      match i, hi with
      | 0, _ => exact hg a (by simp)
      | 1, _ => exact hg b (by simp)
      | 2, _ => exact hg c (by simp)
      | 3, _ => exact hg d (by simp)
      | 4, _ => exact hg f (by simp)⟩
end Go.Proofs.Ytcclbplccnaonaa
