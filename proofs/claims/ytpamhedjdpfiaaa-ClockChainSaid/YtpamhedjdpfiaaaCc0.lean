/- ClockChain where the replica is number 0. No condition. -/
import Derived.Test.YtpamhedjdpfiaaaLaw3f
namespace Go.Proofs.Ytpamhedjdpfiaaa
open Go.RowKit
set_option linter.unusedSimpArgs false
set_option linter.unusedVariables false
set_option maxHeartbeats 8000000 in
theorem clockChain_0 (A B C D E : Int) (hA : 0 ≤ A ∧ A < 512) (hB : 0 ≤ B ∧ B < 512) (hC : 0 ≤ C ∧ C < 512) (hD : 0 ≤ D ∧ D < 512) (hE : 0 ≤ E ∧ E < 512) (a : Clk) (ha : a.a % 512 = A ∧ a.b % 512 = B ∧ a.c % 512 = C ∧ a.d % 512 = D ∧ a.e % 512 = E)
    (r : Int) (hr : 0 ≤ r ∧ r ≤ 255) (hk : r % 5 = 0) (n : Int) (hn : 0 ≤ n ∧ n ≤ 255) (w : World) : Calls Try.prog 10 #[a.val, .int .u8 r, .int .u8 n] w (Yes w) := by
  obtain ⟨h0, h255⟩ := hr
  obtain ⟨n0, n255⟩ := hn
  obtain ⟨q0, q1, q2, q3, q4⟩ := ha
  simp only [Clk.val]
  go_enter Try.func10, Try.ntmps10
  go_wp2_with fail
  (refine (calls_ext (shown3 _)).mono ?_; rintro e w' ⟨rfl, x, rfl⟩; go_wp2_with fail)
  refine wp_loop_rounds 6 ?_
  iterate 5 (rw [rounds_succ]; go_wp2_with fail)
  rw [rounds_succ]; go_wp2_with fail
  simp only [hk]
  refine wp_gen fun W hW => ?_
  have f0 : W.cell? ⟨w.heap.size, 0, none⟩ = some (.int .i64 A) := by rw [hW]; simp [go_sem, ↓IntWalk.iteOmega]
  have f1 : W.cell? ⟨w.heap.size, 1, none⟩ = some (.int .i64 B) := by rw [hW]; simp [go_sem, ↓IntWalk.iteOmega]
  have f2 : W.cell? ⟨w.heap.size, 2, none⟩ = some (.int .i64 C) := by rw [hW]; simp [go_sem, ↓IntWalk.iteOmega]
  have f3 : W.cell? ⟨w.heap.size, 3, none⟩ = some (.int .i64 D) := by rw [hW]; simp [go_sem, ↓IntWalk.iteOmega]
  have f4 : W.cell? ⟨w.heap.size, 4, none⟩ = some (.int .i64 E) := by rw [hW]; simp [go_sem, ↓IntWalk.iteOmega]
  have fs : W.heap.size = w.heap.size + 1 + x.grow + 1 := by rw [hW]; simp [go_sem]
  have fk : Kp w W := by rw [hW]; (repeat' (first | (with_reducible exact Kp.refl _) | (with_reducible assumption) | (with_reducible refine Kp.alloc ?_ _) | (with_reducible refine Kp.ext ?_ _) | (with_reducible refine Kp.put ?_ _ _ _ ?_) | (with_reducible refine Kp.drew ?_) | (with_reducible refine Kp.drewN ?_ _) | (with_reducible refine Kp.setCell ?_ ?_ _) | (with_reducible refine Kp.trans ?_ (by assumption)) | (with_reducible exact Nat.le_refl _) | omega | (simp only [World.size_alloc, World.size_setCell, World.size_drew, size_drewN]; omega) | (simp; omega) | (simp; done)))
  have fb : W.heap[w.heap.size + 1 + x.grow]? = some (.cells #[.int .i64 A, .int .i64 B, .int .i64 C, .int .i64 D, .int .i64 E] 23) := by rw [hW]; exact alloc_block _ _ _ (by simp [go_sem])
  clear hW
  obtain ⟨C0, hC0⟩ : ∃ C0, C0 = w.heap.size + 1 + x.grow := ⟨_, rfl⟩
  rw [← hC0] at fs fb
  simp only [← hC0]
  have g1 : w.heap.size < C0 := by omega
  have g2 : C0 < W.heap.size := by omega
  clear fs hC0
  go_loopw [11] (fun i wr => ∃ j : Nat, (j : Int) ≤ n % 64 ∧ i = .int .i64 j ∧ ∃ X : Later, wr = (W.put C0 #[.int .i64 (A + j), .int .i64 B, .int .i64 C, .int .i64 D, .int .i64 E] 23).ext X)
    (fun i _ => (n % 64 - intOf i).toNat)
  case atStart => exact ⟨0, by omega, rfl, Kp.later (by simp only [Int.natCast_zero, Int.add_zero]; rw [ExtLaws.put_same _ _ _ _ fb]; exact Kp.refl _)⟩
  case round =>
    obtain ⟨j, hj, rfl, X, rfl⟩ := hrel
    by_cases hlt : (j : Int) < n % 64
    · go_wp2_with fail
      refine (calls_ext (next_is ⟨A + j, B, C, D, E⟩ (Clk.get_lo _ _ _ _ _ (by omega) (by omega) (by omega) (by omega) (by omega)) 0 ⟨A + j + 1, B, C, D, E⟩ 0 (by simp [Clk.next, Clk.get, Clk.set]; omega) _)).mono ?_
      rintro e w' ⟨rfl, x, rfl⟩
      simp only [Clk.val]
      go_wp2_with fail
      refine wp_region_ext (by kernel_rfl) (by kernel_rfl) ?_; (repeat go_big_quiet_step (fail))
      (go_big_quiet_step (exact calls_ext2 (has_is ⟨A + j + 1, B, C, D, E⟩ 0 _ true (by simp [Clk.has, Clk.get]; omega) _)); (repeat go_big_quiet_step (fail)))
      (go_big_quiet_step (exact calls_ext2 (has_is ⟨A + j, B, C, D, E⟩ 0 _ false (by simp [Clk.has, Clk.get]; omega) _)); (repeat go_big_quiet_step (fail)))
      refine wpQuiet_nil ?_
      rintro w' ⟨x, rfl⟩
      go_wp2_with fail
      go_roundw
      case rel =>
        refine ⟨j + 1, by omega, by simp, Kp.later ?_⟩
        have e : A + ((j + 1 : Nat) : Int) = A + j + 1 := by omega
        rw [e]
        (repeat' (first | (with_reducible exact Kp.refl _) | (with_reducible assumption) | (with_reducible refine Kp.alloc ?_ _) | (with_reducible refine Kp.ext ?_ _) | (with_reducible refine Kp.put ?_ _ _ _ ?_) | (with_reducible refine Kp.drew ?_) | (with_reducible refine Kp.drewN ?_ _) | (with_reducible refine Kp.setCell ?_ ?_ _) | (with_reducible refine Kp.trans ?_ (by assumption)) | (with_reducible exact Nat.le_refl _) | omega | (simp only [World.size_alloc, World.size_setCell, World.size_drew, size_drewN]; omega) | (simp; omega) | (simp; done)))
      case measure => simp [intOf]; omega
    · have qe : ∀ w, (Op.equalIn 10000 23 (⟨A + j, B, C, D, E⟩ : Clk).val (⟨A + n % 64, B, C, D, E⟩ : Clk).val).run Try.prog w = .ok true w := fun w => by
        rw [eql_clk]; simp; omega
      have qj : ∀ w, (Op.equalIn 10000 23 (⟨A + j, B, C, D, E⟩ : Clk).val (⟨A + j, B, C, D, E⟩ : Clk).val).run Try.prog w = .ok true w := fun w => by
        rw [eql_clk]; simp
      simp only [Clk.val] at qe qj
      go_wp2_with fail
      refine wp_region_ext (by kernel_rfl) (by kernel_rfl) ?_; (repeat go_big_quiet_step (fail))
      (go_big_quiet_step (exact calls_ext2 (join_is ⟨A, B, C, D, E⟩ ⟨A + j, B, C, D, E⟩ ⟨A + j, B, C, D, E⟩ (by simp [Clk.join]; omega) _)); (repeat go_big_quiet_step (fail)))
      (go_big_quiet_step (exact calls_ext2 (le_is ⟨A, B, C, D, E⟩ ⟨A + j, B, C, D, E⟩ true (by simp [Clk.le]; omega) _)); (repeat go_big_quiet_step (fail)))
      (refine wpQuiet_nil ?_; rintro w' ⟨x, rfl⟩; go_wp2_with fail; go_returns; exact ⟨rfl, by (repeat' (first | (with_reducible exact Kp.refl _) | (with_reducible assumption) | (with_reducible refine Kp.alloc ?_ _) | (with_reducible refine Kp.ext ?_ _) | (with_reducible refine Kp.put ?_ _ _ _ ?_) | (with_reducible refine Kp.drew ?_) | (with_reducible refine Kp.drewN ?_ _) | (with_reducible refine Kp.setCell ?_ ?_ _) | (with_reducible refine Kp.trans ?_ (by assumption)) | (with_reducible exact Nat.le_refl _) | omega | (simp only [World.size_alloc, World.size_setCell, World.size_drew, size_drewN]; omega) | (simp; omega) | (simp; done)))⟩)
end Go.Proofs.Ytpamhedjdpfiaaa
