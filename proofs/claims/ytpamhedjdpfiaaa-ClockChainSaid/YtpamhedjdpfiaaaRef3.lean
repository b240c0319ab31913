/- Walks of kithref03: each returns what the plain functions on clocks say. No condition but that of Next: numbers are 64 bits. -/
import Derived.Test.YtpamhedjdpfiaaaClk
namespace Go.Proofs.Ytpamhedjdpfiaaa
open Go.RowKit
set_option linter.unusedSimpArgs false
set_option linter.unusedVariables false
set_option maxHeartbeats 400000 in
theorem ref3_Join (x y : Clk) (w : World) :
    Calls Try.prog 24 #[x.val, y.val] w fun e w' => e = .returned (x.join y).val ∧ Kp w w' := by
  obtain ⟨a, b, c, d, e⟩ := x
  obtain ⟨a', b', c', d', e'⟩ := y
  simp only [Clk.val, Clk.join]
  have hmx : ∀ ts t x y (w : World), (Builtin.max_ ts t #[.int .i64 x, .int .i64 y]).run Try.prog w = .ok (.int .i64 (max x y)) w := fun ts t x y w => by
    rw [run_max_int2, max_if]
  go_enter Try.func24, Try.ntmps24
  go_wp2
  refine wp_loop_rounds 6 ?_
  iterate 5 (rw [rounds_succ]; go_wp2; go_region; go_wp2)
  rw [rounds_succ]; go_wp2
  go_returns
  exact ⟨rfl, by (repeat' (first | (with_reducible exact Kp.refl _) | (with_reducible assumption) | (with_reducible refine Kp.alloc ?_ _) | (with_reducible refine Kp.ext ?_ _) | (with_reducible refine Kp.drew ?_) | (with_reducible refine Kp.drewN ?_ _) | (with_reducible refine Kp.setCell ?_ ?_ _) | (with_reducible refine Kp.trans ?_ (by assumption)) | (with_reducible exact Nat.le_refl _) | omega | (simp only [World.size_alloc, World.size_setCell, World.size_drew, size_drewN]; omega) | (simp; omega) | (simp; done)))⟩
set_option maxHeartbeats 400000 in
theorem ref3_LessEq (x y : Clk) (w : World) :
    Calls Try.prog 25 #[x.val, y.val] w fun e w' => e = .returned (.bool (x.le y)) ∧ Kp w w' := by
  obtain ⟨a, b, c, d, e⟩ := x
  obtain ⟨a', b', c', d', e'⟩ := y
  simp only [Clk.val, Clk.le]
  go_enter Try.func25, Try.ntmps25
  go_wp2
  refine wp_loop_rounds 6 ?_
  iterate 5
    rw [rounds_succ]; go_wp2; go_quiet (fail); go_wp2
    rotate_left
  rw [rounds_succ]; go_wp2
  all_goals go_returns
  all_goals refine ⟨?_, by (repeat' (first | (with_reducible exact Kp.refl _) | (with_reducible assumption) | (with_reducible refine Kp.alloc ?_ _) | (with_reducible refine Kp.ext ?_ _) | (with_reducible refine Kp.drew ?_) | (with_reducible refine Kp.drewN ?_ _) | (with_reducible refine Kp.setCell ?_ ?_ _) | (with_reducible refine Kp.trans ?_ (by assumption)) | (with_reducible exact Nat.le_refl _) | omega | (simp only [World.size_alloc, World.size_setCell, World.size_drew, size_drewN]; omega) | (simp; omega) | (simp; done)))⟩
  all_goals simp [*]
  all_goals omega
set_option maxHeartbeats 400000 in
theorem ref3_Has (x : Clk) (r n : Int) (w : World) :
    Calls Try.prog 23 #[x.val, .int .i64 r, .int .i64 n] w fun e w' => e = .returned (.bool (x.has r n)) ∧ Kp w w' := by
  obtain ⟨a, b, c, d, e⟩ := x
  simp only [Clk.val, Clk.has]
  obtain h | rfl | rfl | rfl | rfl | rfl | h : r < 0 ∨ r = 0 ∨ r = 1 ∨ r = 2 ∨ r = 3 ∨ r = 4 ∨ 5 ≤ r := by omega
  all_goals
    go_enter Try.func23, Try.ntmps23
    go_wp2
    all_goals go_returns
    all_goals refine ⟨?_, by (repeat' (first | (with_reducible exact Kp.refl _) | (with_reducible assumption) | (with_reducible refine Kp.alloc ?_ _) | (with_reducible refine Kp.ext ?_ _) | (with_reducible refine Kp.drew ?_) | (with_reducible refine Kp.drewN ?_ _) | (with_reducible refine Kp.setCell ?_ ?_ _) | (with_reducible refine Kp.trans ?_ (by assumption)) | (with_reducible exact Nat.le_refl _) | omega | (simp only [World.size_alloc, World.size_setCell, World.size_drew, size_drewN]; omega) | (simp; omega) | (simp; done)))⟩
    all_goals simp [Clk.get, *]
    all_goals omega
set_option maxHeartbeats 800000 in
theorem ref3_Next (x : Clk) (r : Int) (hlo : ∀ i, -9223372036854775808 ≤ x.get i) (w : World) :
    Calls Try.prog 22 #[x.val, .int .i64 r] w fun e w' => e = .returned (.tuple #[(x.next r).1.val, .int .i64 (x.next r).2]) ∧ Kp w w' := by
  obtain ⟨a, b, c, d, e⟩ := x
  have l0 := hlo 0
  have l1 := hlo 1
  have l2 := hlo 2
  have l3 := hlo 3
  have l4 := hlo 4
  clear hlo
  simp only [Clk.val, Clk.next, Clk.get] at *
  obtain h | rfl | rfl | rfl | rfl | rfl | h : r < 0 ∨ r = 0 ∨ r = 1 ∨ r = 2 ∨ r = 3 ∨ r = 4 ∨ 5 ≤ r := by omega
  all_goals
    go_enter Try.func22, Try.ntmps22
    go_wp2
    all_goals go_returns
    all_goals refine ⟨?_, by (repeat' (first | (with_reducible exact Kp.refl _) | (with_reducible assumption) | (with_reducible refine Kp.alloc ?_ _) | (with_reducible refine Kp.ext ?_ _) | (with_reducible refine Kp.drew ?_) | (with_reducible refine Kp.drewN ?_ _) | (with_reducible refine Kp.setCell ?_ ?_ _) | (with_reducible refine Kp.trans ?_ (by assumption)) | (with_reducible exact Nat.le_refl _) | omega | (simp only [World.size_alloc, World.size_setCell, World.size_drew, size_drewN]; omega) | (simp; omega) | (simp; done)))⟩
    all_goals simp [Clk.get, Clk.set, Clk.zero, *]
end Go.Proofs.Ytpamhedjdpfiaaa
