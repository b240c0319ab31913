/- ClockNone and ClockAll, walked. No condition. -/
import Derived.Test.YtpamhedjdpfiaaaLaw3b
namespace Go.Proofs.Ytpamhedjdpfiaaa
open Go.RowKit
set_option linter.unusedSimpArgs false
set_option linter.unusedVariables false
theorem next_no (a : Clk) (hlo : ∀ i, I64 (a.get i)) (r : Int) (h : r < 0 ∨ 5 ≤ r) (w : World) : Calls Try.prog 21 #[a.val, .int .i64 r] w fun e w' => e = .returned (.tuple #[Clk.zero.val, .int .i64 1]) ∧ Kp w w' := by
  have := clock_Next a r (fun i => (hlo i).1) w
  have e : a.next r = (Clk.zero, 1) := by unfold Clk.next; rw [if_pos h]
  rwa [e] at this
set_option maxHeartbeats 1600000 in
theorem clockNone_walk (a : Clk) (n r : Int) (hlo : ∀ i, I64 (a.get i)) (hr : I64 r) (hn : I64 n) (w : World) : Calls Try.prog 7 #[a.val, .int .i64 n, .int .i64 r] w (Yes w) := by
  have q1 : ∀ w, (Op.equalIn 10000 23 Clk.zero.val Clk.zero.val).run Try.prog w = .ok true w := fun w => by rw [eql_clk]; simp
  simp only [Clk.zero] at q1
  by_cases h : r < 0
  all_goals
    go_enter Try.func7, Try.ntmps7
    go_wp2_with fail
    (refine (calls_ext (shown3 _)).mono ?_; rintro e w' ⟨rfl, x, rfl⟩; go_wp2_with fail)
    refine (calls_ext (next_no a hlo _ (by omega) _)).mono ?_
    rintro e w' ⟨rfl, x, rfl⟩
    simp only [Clk.zero]
    go_wp2_with fail
    (refine (calls_ext (has_no a _ n (by omega) _)).mono ?_; rintro e w' ⟨rfl, x, rfl⟩; go_wp2_with fail)
    (refine (calls_ext (has_no a _ _ (by omega) _)).mono ?_; rintro e w' ⟨rfl, x, rfl⟩; go_wp2_with fail)
    go_returns
    exact ⟨rfl, by (repeat' (first | (with_reducible exact Kp.refl _) | (with_reducible assumption) | (with_reducible refine Kp.alloc ?_ _) | (with_reducible refine Kp.ext ?_ _) | (with_reducible refine Kp.drew ?_) | (with_reducible refine Kp.drewN ?_ _) | (with_reducible refine Kp.setCell ?_ ?_ _) | (with_reducible refine Kp.trans ?_ (by assumption)) | (with_reducible exact Nat.le_refl _) | omega | (simp only [World.size_alloc, World.size_setCell, World.size_drew, size_drewN]; omega) | (simp; omega) | (simp; done)))⟩
set_option maxHeartbeats 1600000 in
theorem clockAll_walk (a b : Clk) (r n : Int) (hlo : ∀ i, I64 (a.get i)) (w : World) : Calls Try.prog 8 #[a.val, b.val, .agg #[.int .i64 r, .int .i64 n]] w (Yes w) := by
  have q1 : ∀ w, (Op.equalIn 10000 23 (a.join b).val (a.join b).val).run Try.prog w = .ok true w := fun w => by rw [eql_clk]; simp
  have q2 : ∀ w, (Op.equalIn 10000 23 (a.next r).1.val (a.next r).1.val).run Try.prog w = .ok true w := fun w => by rw [eql_clk]; simp
  go_enter Try.func8, Try.ntmps8
  go_wp2_with fail
  (refine (calls_ext (shown3 _)).mono ?_; rintro e w' ⟨rfl, x, rfl⟩; go_wp2_with fail)
  (refine (calls_ext (clock_Next a r (fun i => (hlo i).1) _)).mono ?_; rintro e w' ⟨rfl, x, rfl⟩; go_wp2_with fail)
  (refine (calls_ext (ref3_Next a r (fun i => (hlo i).1) _)).mono ?_; rintro e w' ⟨rfl, x, rfl⟩; go_wp2_with fail)
  refine wp_region_ext (by kernel_rfl) (by kernel_rfl) ?_; (repeat go_big_quiet_step (fail))
  (go_big_quiet_step (exact calls_ext2 (clock_Has a r n _)); (repeat go_big_quiet_step (fail)))
  (go_big_quiet_step (exact calls_ext2 (ref3_Has a r n _)); (repeat go_big_quiet_step (fail)))
  (go_big_quiet_step (exact calls_ext2 (clock_Join a b _)); (repeat go_big_quiet_step (fail)))
  (go_big_quiet_step (exact calls_ext2 (ref3_Join a b _)); (repeat go_big_quiet_step (fail)))
  (go_big_quiet_step (exact calls_ext2 (clock_LessEq a b _)); (repeat go_big_quiet_step (fail)))
  (go_big_quiet_step (exact calls_ext2 (ref3_LessEq a b _)); (repeat go_big_quiet_step (fail)))
  (refine wpQuiet_nil ?_; rintro w' ⟨x, rfl⟩; go_wp2_with fail; go_returns; exact ⟨rfl, by (repeat' (first | (with_reducible exact Kp.refl _) | (with_reducible assumption) | (with_reducible refine Kp.alloc ?_ _) | (with_reducible refine Kp.ext ?_ _) | (with_reducible refine Kp.drew ?_) | (with_reducible refine Kp.drewN ?_ _) | (with_reducible refine Kp.setCell ?_ ?_ _) | (with_reducible refine Kp.trans ?_ (by assumption)) | (with_reducible exact Nat.le_refl _) | omega | (simp only [World.size_alloc, World.size_setCell, World.size_drew, size_drewN]; omega) | (simp; omega) | (simp; done)))⟩)
end Go.Proofs.Ytpamhedjdpfiaaa
