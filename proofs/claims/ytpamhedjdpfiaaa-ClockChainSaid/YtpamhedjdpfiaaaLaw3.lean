/- The laws of layer 3. No condition. -/
import Derived.Test.YtpamhedjdpfiaaaRef3
namespace Go.Proofs.Ytpamhedjdpfiaaa
open Go.RowKit
set_option linter.unusedSimpArgs false
set_option linter.unusedVariables false
theorem info_int : ∃ i, Try.prog.info? 3 = some i := ⟨_, rfl⟩
theorem eql_clk (x y : Clk) (w : World) : (Op.equalIn 10000 23 x.val y.val).run Try.prog w = .ok (decide (x = y)) w := by
  obtain ⟨i, hi⟩ := info_int
  obtain ⟨a, b, c, d, e⟩ := x
  obtain ⟨a', b', c', d', e'⟩ := y
  simp only [Clk.val, Clk.mk.injEq]
  rw [show (10000 : Nat) = 9999 + 1 from rfl, run_equalIn_array w 9999 _ _ Try.underlying23 hi]
  have h1 : Try.prog.cellsOf 3 = 1 := by kernel_rfl
  rw [h1]
  have hs : List.range 5 = [0, 1, 2, 3, 4] := rfl
  rw [hs]
  have hq : ∀ (a b : Int) (w : World), (Op.equalIn 9999 3 (.int .i64 a) (.int .i64 b)).run Try.prog w = .ok (a == b) w := fun a b w => run_equalIn_int w 9998 _ _ _ a b Try.underlying3
  simp [Op.eqItems, part]
  simp only [hq, Result.andThen_ok]
  by_cases e1 : a = a' <;> by_cases e2 : b = b' <;> by_cases e3 : c = c' <;> by_cases e4 : d = d' <;> by_cases e5 : e = e' <;> simp [e1, e2, e3, e4, e5]
set_option maxHeartbeats 400000 in
theorem shown3 (w : World) :
    Calls Try.prog 14 #[] w (Yes w) := by
  have h1 : ∀ w, (Op.equalIn 10000 23 (⟨1, 3, 2, 0, 0⟩ : Clk).val (⟨1, 3, 2, 0, 0⟩ : Clk).val).run Try.prog w = .ok true w := fun w => eql_clk _ _ w
  simp only [Clk.val] at h1
  go_enter Try.func14, Try.ntmps14
  go_wp2_with fail
  refine (clock_Join ⟨1, 0, 2, 0, 0⟩ ⟨0, 3, 1, 0, 0⟩ _).mono ?_
  rintro e w1 ⟨rfl, hb1⟩
  rw [show Clk.join ⟨1, 0, 2, 0, 0⟩ ⟨0, 3, 1, 0, 0⟩ = ⟨1, 3, 2, 0, 0⟩ from rfl]
  simp only [Clk.val]
  go_wp2_with fail
  refine (clock_Has ⟨1, 0, 2, 0, 0⟩ 2 2 _).mono ?_
  rintro e w2 ⟨rfl, hb2⟩
  rw [show Clk.has ⟨1, 0, 2, 0, 0⟩ 2 2 = true from rfl]
  go_wp2_with fail
  refine (clock_Has ⟨1, 0, 2, 0, 0⟩ 1 1 _).mono ?_
  rintro e w3 ⟨rfl, hb3⟩
  rw [show Clk.has ⟨1, 0, 2, 0, 0⟩ 1 1 = false from rfl]
  go_wp2_with fail
  go_returns
  exact ⟨rfl, by (repeat' (first | (with_reducible exact Kp.refl _) | (with_reducible assumption) | (with_reducible refine Kp.alloc ?_ _) | (with_reducible refine Kp.ext ?_ _) | (with_reducible refine Kp.drew ?_) | (with_reducible refine Kp.drewN ?_ _) | (with_reducible refine Kp.setCell ?_ ?_ _) | (with_reducible refine Kp.trans ?_ (by assumption)) | (with_reducible exact Nat.le_refl _) | omega | (simp only [World.size_alloc, World.size_setCell, World.size_drew, size_drewN]; omega) | (simp; omega) | (simp; done)))⟩
theorem Clk.join_comm (x y : Clk) : x.join y = y.join x := by
  simp only [Clk.join, Clk.mk.injEq]; omega
theorem Clk.join_assoc (x y z : Clk) : (x.join y).join z = x.join (y.join z) := by
  simp only [Clk.join, Clk.mk.injEq]; omega
theorem Clk.join_self (x : Clk) : x.join x = x := by
  obtain ⟨a, b, c, d, e⟩ := x
  simp only [Clk.join, Clk.mk.injEq]; omega
theorem Clk.le_iff (x y : Clk) : x.le y = true ↔ x.a ≤ y.a ∧ x.b ≤ y.b ∧ x.c ≤ y.c ∧ x.d ≤ y.d ∧ x.e ≤ y.e := by
  simp [Clk.le, and_assoc]
theorem Clk.le_join (x y : Clk) : x.le (x.join y) = true := by
  rw [Clk.le_iff]; simp only [Clk.join]; omega
theorem Clk.le_join' (x y : Clk) : y.le (x.join y) = true := by
  rw [Clk.le_iff]; simp only [Clk.join]; omega
theorem Clk.join_le (x y z : Clk) (h : x.le z = true) (k : y.le z = true) : (x.join y).le z = true := by
  rw [Clk.le_iff] at *; simp only [Clk.join]; omega
theorem Clk.le_eq (x y : Clk) : x.le y = decide (x.join y = y) := by
  rw [Bool.eq_iff_iff, Clk.le_iff, decide_eq_true_iff]
  obtain ⟨a, b, c, d, e⟩ := y
  simp only [Clk.join, Clk.mk.injEq]
  omega
set_option maxHeartbeats 1600000 in
theorem clockJoins_walk (a b c : Clk) (w : World) : Calls Try.prog 3 #[a.val, b.val, c.val] w (Yes w) := by
  have q1 : ∀ w, (Op.equalIn 10000 23 (a.join b).val (b.join a).val).run Try.prog w = .ok true w := fun w => by rw [eql_clk, Clk.join_comm]; simp
  have q2 : ∀ w, (Op.equalIn 10000 23 ((a.join b).join c).val (a.join (b.join c)).val).run Try.prog w = .ok true w := fun w => by rw [eql_clk, Clk.join_assoc]; simp
  have q3 : ∀ w, (Op.equalIn 10000 23 (a.join a).val a.val).run Try.prog w = .ok true w := fun w => by rw [eql_clk, Clk.join_self]; simp
  have q4 : ∀ w, (Op.equalIn 10000 23 (a.join b).val b.val).run Try.prog w = .ok (a.le b) w := fun w => by rw [eql_clk, Clk.le_eq]
  have cj := fun w => clock_LessEq a (a.join b) w
  have cj' := fun w => clock_LessEq b (a.join b) w
  simp only [Clk.le_join, Clk.le_join'] at cj cj'
  have cac := fun w => clock_LessEq a c w
  have cbc := fun w => clock_LessEq b c w
  have cjc := fun w => clock_LessEq (a.join b) c w
  have hh : (a.le c = false) ∨ (a.le c = true ∧ b.le c = false) ∨ (a.le c = true ∧ b.le c = true ∧ (a.join b).le c = true) := by
    cases h1 : a.le c <;> cases h2 : b.le c <;> simp
    exact Clk.join_le _ _ _ h1 h2
  rcases hh with h1 | ⟨h1, h2⟩ | ⟨h1, h2, h3⟩
  · simp only [h1] at cac
    clear h1
    go_enter Try.func3, Try.ntmps3
    go_wp2_with fail
    refine (calls_ext (shown3 _)).mono ?_
    rintro e w' ⟨rfl, x1, rfl⟩
    go_wp2_with fail
    refine (calls_ext (clock_Join a b _)).mono ?_
    rintro e w' ⟨rfl, x2, rfl⟩
    go_wp2_with fail
    refine (calls_ext (cac _)).mono ?_
    rintro e w' ⟨rfl, x3, rfl⟩
    go_wp2_with fail
    (refine wp_region_ext (by kernel_rfl) (by kernel_rfl) ?_; (repeat go_big_quiet_step (fail)); (go_big_quiet_step (exact calls_ext2 (clock_Join b a _)); (repeat go_big_quiet_step (fail))); (go_big_quiet_step (exact calls_ext2 (clock_Join (a.join b) c _)); (repeat go_big_quiet_step (fail))); (go_big_quiet_step (exact calls_ext2 (clock_Join b c _)); (repeat go_big_quiet_step (fail))); (go_big_quiet_step (exact calls_ext2 (clock_Join a (b.join c) _)); (repeat go_big_quiet_step (fail))); (go_big_quiet_step (exact calls_ext2 (clock_Join a a _)); (repeat go_big_quiet_step (fail))); (go_big_quiet_step (exact calls_ext2 (cj _)); (repeat go_big_quiet_step (fail))); (go_big_quiet_step (exact calls_ext2 (cj' _)); (repeat go_big_quiet_step (fail))); (go_big_quiet_step (exact calls_ext2 (clock_LessEq a b _)); (repeat go_big_quiet_step (fail))); (refine wpQuiet_nil ?_; rintro w' ⟨x, rfl⟩; go_wp2_with fail; go_returns; exact ⟨rfl, by (repeat' (first | (with_reducible exact Kp.refl _) | (with_reducible assumption) | (with_reducible refine Kp.alloc ?_ _) | (with_reducible refine Kp.ext ?_ _) | (with_reducible refine Kp.drew ?_) | (with_reducible refine Kp.drewN ?_ _) | (with_reducible refine Kp.setCell ?_ ?_ _) | (with_reducible refine Kp.trans ?_ (by assumption)) | (with_reducible exact Nat.le_refl _) | omega | (simp only [World.size_alloc, World.size_setCell, World.size_drew, size_drewN]; omega) | (simp; omega) | (simp; done)))⟩))
  · simp only [h1] at cac
    simp only [h2] at cbc
    clear h1 h2
    go_enter Try.func3, Try.ntmps3
    go_wp2_with fail
    refine (calls_ext (shown3 _)).mono ?_
    rintro e w' ⟨rfl, x1, rfl⟩
    go_wp2_with fail
    refine (calls_ext (clock_Join a b _)).mono ?_
    rintro e w' ⟨rfl, x2, rfl⟩
    go_wp2_with fail
    refine (calls_ext (cac _)).mono ?_
    rintro e w' ⟨rfl, x3, rfl⟩
    go_wp2_with fail
    refine (calls_ext (cbc _)).mono ?_
    rintro e w' ⟨rfl, x5, rfl⟩
    go_wp2_with fail
    (refine wp_region_ext (by kernel_rfl) (by kernel_rfl) ?_; (repeat go_big_quiet_step (fail)); (go_big_quiet_step (exact calls_ext2 (clock_Join b a _)); (repeat go_big_quiet_step (fail))); (go_big_quiet_step (exact calls_ext2 (clock_Join (a.join b) c _)); (repeat go_big_quiet_step (fail))); (go_big_quiet_step (exact calls_ext2 (clock_Join b c _)); (repeat go_big_quiet_step (fail))); (go_big_quiet_step (exact calls_ext2 (clock_Join a (b.join c) _)); (repeat go_big_quiet_step (fail))); (go_big_quiet_step (exact calls_ext2 (clock_Join a a _)); (repeat go_big_quiet_step (fail))); (go_big_quiet_step (exact calls_ext2 (cj _)); (repeat go_big_quiet_step (fail))); (go_big_quiet_step (exact calls_ext2 (cj' _)); (repeat go_big_quiet_step (fail))); (go_big_quiet_step (exact calls_ext2 (clock_LessEq a b _)); (repeat go_big_quiet_step (fail))); (refine wpQuiet_nil ?_; rintro w' ⟨x, rfl⟩; go_wp2_with fail; go_returns; exact ⟨rfl, by (repeat' (first | (with_reducible exact Kp.refl _) | (with_reducible assumption) | (with_reducible refine Kp.alloc ?_ _) | (with_reducible refine Kp.ext ?_ _) | (with_reducible refine Kp.drew ?_) | (with_reducible refine Kp.drewN ?_ _) | (with_reducible refine Kp.setCell ?_ ?_ _) | (with_reducible refine Kp.trans ?_ (by assumption)) | (with_reducible exact Nat.le_refl _) | omega | (simp only [World.size_alloc, World.size_setCell, World.size_drew, size_drewN]; omega) | (simp; omega) | (simp; done)))⟩))
  · simp only [h1] at cac
    simp only [h2] at cbc
    simp only [h3] at cjc
    clear h1 h2 h3
    go_enter Try.func3, Try.ntmps3
    go_wp2_with fail
    refine (calls_ext (shown3 _)).mono ?_
    rintro e w' ⟨rfl, x1, rfl⟩
    go_wp2_with fail
    refine (calls_ext (clock_Join a b _)).mono ?_
    rintro e w' ⟨rfl, x2, rfl⟩
    go_wp2_with fail
    refine (calls_ext (cac _)).mono ?_
    rintro e w' ⟨rfl, x3, rfl⟩
    go_wp2_with fail
    refine (calls_ext (cbc _)).mono ?_
    rintro e w' ⟨rfl, x5, rfl⟩
    go_wp2_with fail
    refine (calls_ext (cjc _)).mono ?_
    rintro e w' ⟨rfl, x6, rfl⟩
    go_wp2_with fail
    (refine wp_region_ext (by kernel_rfl) (by kernel_rfl) ?_; (repeat go_big_quiet_step (fail)); (go_big_quiet_step (exact calls_ext2 (clock_Join b a _)); (repeat go_big_quiet_step (fail))); (go_big_quiet_step (exact calls_ext2 (clock_Join (a.join b) c _)); (repeat go_big_quiet_step (fail))); (go_big_quiet_step (exact calls_ext2 (clock_Join b c _)); (repeat go_big_quiet_step (fail))); (go_big_quiet_step (exact calls_ext2 (clock_Join a (b.join c) _)); (repeat go_big_quiet_step (fail))); (go_big_quiet_step (exact calls_ext2 (clock_Join a a _)); (repeat go_big_quiet_step (fail))); (go_big_quiet_step (exact calls_ext2 (cj _)); (repeat go_big_quiet_step (fail))); (go_big_quiet_step (exact calls_ext2 (cj' _)); (repeat go_big_quiet_step (fail))); (go_big_quiet_step (exact calls_ext2 (clock_LessEq a b _)); (repeat go_big_quiet_step (fail))); (refine wpQuiet_nil ?_; rintro w' ⟨x, rfl⟩; go_wp2_with fail; go_returns; exact ⟨rfl, by (repeat' (first | (with_reducible exact Kp.refl _) | (with_reducible assumption) | (with_reducible refine Kp.alloc ?_ _) | (with_reducible refine Kp.ext ?_ _) | (with_reducible refine Kp.drew ?_) | (with_reducible refine Kp.drewN ?_ _) | (with_reducible refine Kp.setCell ?_ ?_ _) | (with_reducible refine Kp.trans ?_ (by assumption)) | (with_reducible exact Nat.le_refl _) | omega | (simp only [World.size_alloc, World.size_setCell, World.size_drew, size_drewN]; omega) | (simp; omega) | (simp; done)))⟩))
end Go.Proofs.Ytpamhedjdpfiaaa
