/- ClockHas, walked. No condition. -/
import Derived.Test.YtpamhedjdpfiaaaLaw3
namespace Go.Proofs.Ytpamhedjdpfiaaa
open Go.RowKit
set_option linter.unusedSimpArgs false
set_option linter.unusedVariables false
theorem has_no (a : Clk) (r n : Int) (h : r < 0 ∨ 5 ≤ r ∨ n ≤ 0) (w : World) : Calls Try.prog 17 #[a.val, .int .i64 r, .int .i64 n] w fun e w' => e = .returned (.bool false) ∧ Kp w w' := by
  have := clock_Has a r n w
  have e : a.has r n = false := by unfold Clk.has; simp; intros; omega
  rwa [e] at this
theorem has_is (a : Clk) (r n : Int) (b : Bool) (h : a.has r n = b) (w : World) : Calls Try.prog 17 #[a.val, .int .i64 r, .int .i64 n] w fun e w' => e = .returned (.bool b) ∧ Kp w w' := by
  subst h; exact clock_Has a r n w
theorem le_is (x y : Clk) (b : Bool) (h : x.le y = b) (w : World) : Calls Try.prog 16 #[x.val, y.val] w fun e w' => e = .returned (.bool b) ∧ Kp w w' := by
  subst h; exact clock_LessEq x y w
theorem Clk.has_join (x y : Clk) (r n : Int) : (x.join y).has r n = (x.has r n || y.has r n) := by
  unfold Clk.has
  by_cases h : 0 ≤ r ∧ r < 5
  · obtain rfl | rfl | rfl | rfl | rfl : r = 0 ∨ r = 1 ∨ r = 2 ∨ r = 3 ∨ r = 4 := by omega
    all_goals simp [Clk.join, Clk.get]; rw [Bool.eq_iff_iff]; simp; omega
  · rw [Bool.eq_iff_iff]; simp; omega
theorem Clk.has_le (x y : Clk) (r n : Int) (h : x.has r n = true) (k : y.has r n = false) : x.le y = false := by
  cases e : x.le y with
  | false => rfl
  | true =>
    rw [Clk.le_iff] at e
    unfold Clk.has at *
    simp at h k
    obtain ⟨⟨⟨h0, h5⟩, h1⟩, hn⟩ := h
    have := k h0 h5 h1
    obtain rfl | rfl | rfl | rfl | rfl : r = 0 ∨ r = 1 ∨ r = 2 ∨ r = 3 ∨ r = 4 := by omega
    all_goals simp [Clk.get] at *; omega
set_option maxHeartbeats 1600000 in
theorem clockHas_walk (a b : Clk) (r n : Int) (hr : I64 r) (w : World) : Calls Try.prog 4 #[a.val, b.val, .agg #[.int .i64 r, .int .i64 n]] w (Yes w) := by
  cases h1 : a.has r n <;> cases h2 : b.has r n
  all_goals
    have H1 := Lib.hid h1
    have H2 := Lib.hid h2
    clear h1 h2
    go_enter Try.func4, Try.ntmps4
    go_wp2_with fail
    (refine (calls_ext (shown3 _)).mono ?_; rintro e w' ⟨rfl, x, rfl⟩; go_wp2_with fail)
    (refine (calls_ext (has_is a r n _ H1.out _)).mono ?_; rintro e w' ⟨rfl, x, rfl⟩; go_wp2_with fail)
    (refine (calls_ext (has_is b r n _ H2.out _)).mono ?_; rintro e w' ⟨rfl, x, rfl⟩; go_wp2_with fail)
    refine wp_region_ext (by kernel_rfl) (by kernel_rfl) ?_; (repeat go_big_quiet_step (fail))
    (go_big_quiet_step (exact calls_ext2 (clock_Join a b _)); (repeat go_big_quiet_step (fail)))
    (go_big_quiet_step (exact calls_ext2 (has_is (a.join b) r n _ (by rw [Clk.has_join, H1.out, H2.out]) _)); (repeat go_big_quiet_step (fail)))
  · (go_big_quiet_step (exact calls_ext2 (has_no a r 0 (by omega) _)); (repeat go_big_quiet_step (fail)))
    (go_big_quiet_step (exact calls_ext2 (has_no a _ n (by omega) _)); (repeat go_big_quiet_step (fail)))
    (go_big_quiet_step (exact calls_ext2 (has_no a _ n (by omega) _)); (repeat go_big_quiet_step (fail)))
    (refine wpQuiet_nil ?_; rintro w' ⟨x, rfl⟩; go_wp2_with fail; go_returns; exact ⟨rfl, by (repeat' (first | (with_reducible exact Kp.refl _) | (with_reducible assumption) | (with_reducible refine Kp.alloc ?_ _) | (with_reducible refine Kp.ext ?_ _) | (with_reducible refine Kp.drew ?_) | (with_reducible refine Kp.drewN ?_ _) | (with_reducible refine Kp.setCell ?_ ?_ _) | (with_reducible refine Kp.trans ?_ (by assumption)) | (with_reducible exact Nat.le_refl _) | omega | (simp only [World.size_alloc, World.size_setCell, World.size_drew, size_drewN]; omega) | (simp; omega) | (simp; done)))⟩)
  · (go_big_quiet_step (exact calls_ext2 (has_no a r 0 (by omega) _)); (repeat go_big_quiet_step (fail)))
    (go_big_quiet_step (exact calls_ext2 (has_no a _ n (by omega) _)); (repeat go_big_quiet_step (fail)))
    (go_big_quiet_step (exact calls_ext2 (has_no a _ n (by omega) _)); (repeat go_big_quiet_step (fail)))
    (refine wpQuiet_nil ?_; rintro w' ⟨x, rfl⟩; go_wp2_with fail; go_returns; exact ⟨rfl, by (repeat' (first | (with_reducible exact Kp.refl _) | (with_reducible assumption) | (with_reducible refine Kp.alloc ?_ _) | (with_reducible refine Kp.ext ?_ _) | (with_reducible refine Kp.drew ?_) | (with_reducible refine Kp.drewN ?_ _) | (with_reducible refine Kp.setCell ?_ ?_ _) | (with_reducible refine Kp.trans ?_ (by assumption)) | (with_reducible exact Nat.le_refl _) | omega | (simp only [World.size_alloc, World.size_setCell, World.size_drew, size_drewN]; omega) | (simp; omega) | (simp; done)))⟩)
  · (go_big_quiet_step (exact calls_ext2 (le_is a b _ (Clk.has_le a b r n H1.out H2.out) _)); (repeat go_big_quiet_step (fail)))
    (go_big_quiet_step (exact calls_ext2 (has_no a r 0 (by omega) _)); (repeat go_big_quiet_step (fail)))
    (go_big_quiet_step (exact calls_ext2 (has_no a _ n (by omega) _)); (repeat go_big_quiet_step (fail)))
    (go_big_quiet_step (exact calls_ext2 (has_no a _ n (by omega) _)); (repeat go_big_quiet_step (fail)))
    (refine wpQuiet_nil ?_; rintro w' ⟨x, rfl⟩; go_wp2_with fail; go_returns; exact ⟨rfl, by (repeat' (first | (with_reducible exact Kp.refl _) | (with_reducible assumption) | (with_reducible refine Kp.alloc ?_ _) | (with_reducible refine Kp.ext ?_ _) | (with_reducible refine Kp.drew ?_) | (with_reducible refine Kp.drewN ?_ _) | (with_reducible refine Kp.setCell ?_ ?_ _) | (with_reducible refine Kp.trans ?_ (by assumption)) | (with_reducible exact Nat.le_refl _) | omega | (simp only [World.size_alloc, World.size_setCell, World.size_drew, size_drewN]; omega) | (simp; omega) | (simp; done)))⟩)
  · (go_big_quiet_step (exact calls_ext2 (has_no a r 0 (by omega) _)); (repeat go_big_quiet_step (fail)))
    (go_big_quiet_step (exact calls_ext2 (has_no a _ n (by omega) _)); (repeat go_big_quiet_step (fail)))
    (go_big_quiet_step (exact calls_ext2 (has_no a _ n (by omega) _)); (repeat go_big_quiet_step (fail)))
    (refine wpQuiet_nil ?_; rintro w' ⟨x, rfl⟩; go_wp2_with fail; go_returns; exact ⟨rfl, by (repeat' (first | (with_reducible exact Kp.refl _) | (with_reducible assumption) | (with_reducible refine Kp.alloc ?_ _) | (with_reducible refine Kp.ext ?_ _) | (with_reducible refine Kp.drew ?_) | (with_reducible refine Kp.drewN ?_ _) | (with_reducible refine Kp.setCell ?_ ?_ _) | (with_reducible refine Kp.trans ?_ (by assumption)) | (with_reducible exact Nat.le_refl _) | omega | (simp only [World.size_alloc, World.size_setCell, World.size_drew, size_drewN]; omega) | (simp; omega) | (simp; done)))⟩)
end Go.Proofs.Ytpamhedjdpfiaaa
