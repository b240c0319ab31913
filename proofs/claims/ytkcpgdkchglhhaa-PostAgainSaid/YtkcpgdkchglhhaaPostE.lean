/- How a hub stands, compared; what a push of the next row does. No condition. -/
import Derived.Test.YtkcpgdkchglhhaaLaw16b
namespace Go.Proofs.Ytkcpgdkchglhhaa
open Go.RowKit
set_option linter.unusedSimpArgs false
set_option linter.unusedVariables false
instance : EqT Try.prog 39 Hs := ⟨6, .b :: List.replicate 35 (.i .i64), by kernel_rfl, by kernel_rfl, by kernel_rfl, by kernel_rfl, fun _ => rfl, fun a b h => by
  obtain ⟨⟨a1, a2, a3, a4, a5⟩, ⟨b1, b2, b3, b4, b5⟩, ⟨c1, c2, c3, c4, c5⟩, ⟨d1, d2, d3, d4, d5⟩, ⟨e1, e2, e3, e4, e5⟩, ⟨f1, f2, f3, f4, f5⟩, ⟨g1, g2, g3, g4, g5⟩⟩ := a
  obtain ⟨⟨A1, A2, A3, A4, A5⟩, ⟨B1, B2, B3, B4, B5⟩, ⟨C1, C2, C3, C4, C5⟩, ⟨D1, D2, D3, D4, D5⟩, ⟨E1, E2, E3, E4, E5⟩, ⟨F1, F2, F3, F4, F5⟩, ⟨G1, G2, G3, G4, G5⟩⟩ := b
  simp only [Rep.cells, List.cons_append, List.nil_append, List.append_assoc, List.cons.injEq, Value.int.injEq, true_and, and_true] at h
  simp only [Hs.mk.injEq, Clk.mk.injEq]
  obtain ⟨h1, h2, h3, h4, h5, h6, h7, h8, h9, h10, h11, h12, h13, h14, h15, h16, h17, h18, h19, h20, h21, h22, h23, h24, h25, h26, h27, h28, h29, h30, h31, h32, h33, h34, h35⟩ := h
  exact ⟨⟨h1, h2, h3, h4, h5⟩, ⟨h6, h7, h8, h9, h10⟩, ⟨h11, h12, h13, h14, h15⟩, ⟨h16, h17, h18, h19, h20⟩, ⟨h21, h22, h23, h24, h25⟩, ⟨h26, h27, h28, h29, h30⟩, ⟨h31, h32, h33, h34, h35⟩⟩⟩
/-- A push of the next k of r's row. -/
theorem push_next (g : Nat) (most : Int) (n : Nat) (T : Nat → Clk) (len cut : Nat → Nat) {r k : Nat} {a : Int} (u : Value) (M : List Assn) (hn : n ≤ 5) (hr : r < n) (hi : ∀ i, i < n → cut i ≤ len i ∧ len i ≤ 1000000) (ha : a = (len r : Int) + 1) (hk : k ≤ 1000000) (hu : RdT M u (rowR r a k)) :
    Fn Try.prog 15 #[.pointer (some ⟨g, 0, none⟩), .int .i64 r, u] (PoA g most (mkR n T len cut) :: M) fun v L' =>
      ((k = 0 ∨ (len r : Int) - cut r + k ≤ most) ∧ v = .tuple #[.int .i64 ((len r : Int) + k), .int .i64 0] ∧ L' = PoA g most (mkR n T (put1 len r (len r + k)) (put1 cut r (cutTo (cut r) (leastF n T r) (len r + k)))) :: M) ∨
      (¬ (k = 0 ∨ (len r : Int) - cut r + k ≤ most) ∧ v = .tuple #[.int .i64 0, .int .i64 21] ∧ L' = PoA g most (mkR n T len cut) :: M) := by
  subst ha
  have hlr := hi r hr
  have h := post_PushA g most (mkR n T len cut) r u (rowR r ((len r : Int) + 1) k) M (mkR_ok hn hi) hu (by rw [rowR_len]; exact hk) (fun e he => by
    obtain ⟨i, hi, rfl⟩ := rowR_mem he
    unfold I64 evR
    simp only
    omega)
  by_cases hw : k = 0 ∨ (len r : Int) - cut r + k ≤ most
  · rw [mkR_push n T len cut hr (.inr (Int.le_refl _)) hlr.1 (f := k) (by omega) hw] at h
    refine h.res ?_
    rintro v L' ⟨rfl, rfl⟩
    exact ⟨_, Sub.refl _, .inl ⟨hw, by simp, rfl⟩⟩
  · rw [mkR_pushF n T len cut hr (Int.le_refl _) hlr.1 (f := k) (by omega) (by omega) (by omega)] at h
    refine h.res ?_
    rintro v L' ⟨rfl, rfl⟩
    exact ⟨_, Sub.refl _, .inr ⟨hw, rfl, rfl⟩⟩
end Go.Proofs.Ytkcpgdkchglhhaa
