/- Clocks as five numbers: the value, the reading, the walks of package clock and of kithref03. No condition. -/
import Derived.Test.YtpamhedjdpfiaaaChecked
import Derived.Test.YtpamhedjdpfiaaaExt
namespace Go.Proofs.Ytpamhedjdpfiaaa
open Go.RowKit
set_option linter.unusedSimpArgs false
set_option linter.unusedVariables false
structure Clk where
  a : Int
  b : Int
  c : Int
  d : Int
  e : Int
  deriving DecidableEq
def Clk.get (k : Clk) (i : Nat) : Int := match i with | 0 => k.a | 1 => k.b | 2 => k.c | 3 => k.d | 4 => k.e | _ => 0
@[reducible] def Clk.val (k : Clk) : Value := .agg #[.int .i64 k.a, .int .i64 k.b, .int .i64 k.c, .int .i64 k.d, .int .i64 k.e]
def Clk.join (x y : Clk) : Clk := ⟨max x.a y.a, max x.b y.b, max x.c y.c, max x.d y.d, max x.e y.e⟩
def Clk.le (x y : Clk) : Bool := x.a ≤ y.a && x.b ≤ y.b && x.c ≤ y.c && x.d ≤ y.d && x.e ≤ y.e
def Clk.set (k : Clk) (i : Nat) (v : Int) : Clk := match i with | 0 => { k with a := v } | 1 => { k with b := v } | 2 => { k with c := v } | 3 => { k with d := v } | 4 => { k with e := v } | _ => k
def Clk.zero : Clk := ⟨0, 0, 0, 0, 0⟩
def Clk.next (k : Clk) (r : Int) : Clk × Int := if r < 0 ∨ 5 ≤ r then (Clk.zero, 1) else if 1048576 ≤ k.get r.toNat then (Clk.zero, 25) else (k.set r.toNat (k.get r.toNat + 1), 0)
def Clk.has (k : Clk) (r n : Int) : Bool := 0 ≤ r && r < 5 && 1 ≤ n && n ≤ k.get r.toNat
set_option maxHeartbeats 400000 in
theorem clock_Join (x y : Clk) (w : World) :
    Calls Try.prog 15 #[x.val, y.val] w fun e w' => e = .returned (x.join y).val ∧ Kp w w' := by
  obtain ⟨a, b, c, d, e⟩ := x
  obtain ⟨a', b', c', d', e'⟩ := y
  simp only [Clk.val, Clk.join]
  have hmx : ∀ ts t x y (w : World), (Builtin.max_ ts t #[.int .i64 x, .int .i64 y]).run Try.prog w = .ok (.int .i64 (max x y)) w := fun ts t x y w => by
    rw [run_max_int2, max_if]
  go_enter Try.func15, Try.ntmps15
  go_wp2
  refine wp_loop_rounds 6 ?_
  iterate 5 (rw [rounds_succ]; go_wp2; go_region; go_wp2)
  rw [rounds_succ]; go_wp2
  go_returns
  exact ⟨rfl, by (repeat' (first | (with_reducible exact Kp.refl _) | (with_reducible assumption) | (with_reducible refine Kp.alloc ?_ _) | (with_reducible refine Kp.ext ?_ _) | (with_reducible refine Kp.put ?_ _ _ _ ?_) | (with_reducible refine Kp.drew ?_) | (with_reducible refine Kp.drewN ?_ _) | (with_reducible refine Kp.setCell ?_ ?_ _) | (with_reducible refine Kp.trans ?_ (by assumption)) | (with_reducible exact Nat.le_refl _) | omega | (simp only [World.size_alloc, World.size_setCell, World.size_drew, size_drewN]; omega) | (simp; omega) | (simp; done)))⟩
set_option maxHeartbeats 400000 in
theorem clock_LessEq (x y : Clk) (w : World) :
    Calls Try.prog 16 #[x.val, y.val] w fun e w' => e = .returned (.bool (x.le y)) ∧ Kp w w' := by
  obtain ⟨a, b, c, d, e⟩ := x
  obtain ⟨a', b', c', d', e'⟩ := y
  simp only [Clk.val, Clk.le]
  go_enter Try.func16, Try.ntmps16
  go_wp2
  refine wp_loop_rounds 6 ?_
  iterate 5
    rw [rounds_succ]; go_wp2; go_quiet (fail); go_wp2
    rotate_left
  rw [rounds_succ]; go_wp2
  all_goals go_returns
  all_goals refine ⟨?_, by (repeat' (first | (with_reducible exact Kp.refl _) | (with_reducible assumption) | (with_reducible refine Kp.alloc ?_ _) | (with_reducible refine Kp.ext ?_ _) | (with_reducible refine Kp.put ?_ _ _ _ ?_) | (with_reducible refine Kp.drew ?_) | (with_reducible refine Kp.drewN ?_ _) | (with_reducible refine Kp.setCell ?_ ?_ _) | (with_reducible refine Kp.trans ?_ (by assumption)) | (with_reducible exact Nat.le_refl _) | omega | (simp only [World.size_alloc, World.size_setCell, World.size_drew, size_drewN]; omega) | (simp; omega) | (simp; done)))⟩
  all_goals simp [*]
  all_goals omega
set_option maxHeartbeats 400000 in
theorem clock_Has (x : Clk) (r n : Int) (w : World) :
    Calls Try.prog 17 #[x.val, .int .i64 r, .int .i64 n] w fun e w' => e = .returned (.bool (x.has r n)) ∧ Kp w w' := by
  obtain ⟨a, b, c, d, e⟩ := x
  simp only [Clk.val, Clk.has]
  obtain h | rfl | rfl | rfl | rfl | rfl | h : r < 0 ∨ r = 0 ∨ r = 1 ∨ r = 2 ∨ r = 3 ∨ r = 4 ∨ 5 ≤ r := by omega
  all_goals
    go_enter Try.func17, Try.ntmps17
    go_wp2
    all_goals go_returns
    all_goals refine ⟨?_, by (repeat' (first | (with_reducible exact Kp.refl _) | (with_reducible assumption) | (with_reducible refine Kp.alloc ?_ _) | (with_reducible refine Kp.ext ?_ _) | (with_reducible refine Kp.put ?_ _ _ _ ?_) | (with_reducible refine Kp.drew ?_) | (with_reducible refine Kp.drewN ?_ _) | (with_reducible refine Kp.setCell ?_ ?_ _) | (with_reducible refine Kp.trans ?_ (by assumption)) | (with_reducible exact Nat.le_refl _) | omega | (simp only [World.size_alloc, World.size_setCell, World.size_drew, size_drewN]; omega) | (simp; omega) | (simp; done)))⟩
    all_goals simp [Clk.get, *]
    all_goals omega
set_option maxHeartbeats 800000 in
theorem clock_Next (x : Clk) (r : Int) (hlo : ∀ i, -9223372036854775808 ≤ x.get i) (w : World) :
    Calls Try.prog 21 #[x.val, .int .i64 r] w fun e w' => e = .returned (.tuple #[(x.next r).1.val, .int .i64 (x.next r).2]) ∧ Kp w w' := by
  obtain ⟨a, b, c, d, e⟩ := x
  have l0 := hlo 0
  have l1 := hlo 1
  have l2 := hlo 2
  have l3 := hlo 3
  have l4 := hlo 4
  clear hlo
  simp only [Clk.val, Clk.next, Clk.get] at *
  obtain h | rfl | rfl | rfl | rfl | rfl | h : r < 0 ∨ r = 0 ∨ r = 1 ∨ r = 2 ∨ r = 3 ∨ r = 4 ∨ 5 ≤ r := by omega
  all_goals
    go_enter Try.func21, Try.ntmps21
    go_wp2
    all_goals go_returns
    all_goals refine ⟨?_, by (repeat' (first | (with_reducible exact Kp.refl _) | (with_reducible assumption) | (with_reducible refine Kp.alloc ?_ _) | (with_reducible refine Kp.ext ?_ _) | (with_reducible refine Kp.put ?_ _ _ _ ?_) | (with_reducible refine Kp.drew ?_) | (with_reducible refine Kp.drewN ?_ _) | (with_reducible refine Kp.setCell ?_ ?_ _) | (with_reducible refine Kp.trans ?_ (by assumption)) | (with_reducible exact Nat.le_refl _) | omega | (simp only [World.size_alloc, World.size_setCell, World.size_drew, size_drewN]; omega) | (simp; omega) | (simp; done)))⟩
    all_goals simp [Clk.get, Clk.set, Clk.zero, *]
end Go.Proofs.Ytpamhedjdpfiaaa
