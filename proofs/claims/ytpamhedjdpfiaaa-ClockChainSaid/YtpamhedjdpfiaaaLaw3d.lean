/- ClockNext and ClockChain, walked. No condition. -/
import Derived.Test.YtpamhedjdpfiaaaLaw3c
namespace Go.Proofs.Ytpamhedjdpfiaaa
open Go.RowKit
set_option linter.unusedSimpArgs false
set_option linter.unusedVariables false
def Clk.mask (k : Clk) (m : Int) : Clk := ⟨k.a % m, k.b % m, k.c % m, k.d % m, k.e % m⟩
theorem next_is (a : Clk) (hlo : ∀ i, -9223372036854775808 ≤ a.get i) (r : Int) (c : Clk) (e : Int) (h : a.next r = (c, e)) (w : World) : Calls Try.prog 21 #[a.val, .int .i64 r] w fun x w' => x = .returned (.tuple #[c.val, .int .i64 e]) ∧ Kp w w' := by
  have := clock_Next a r hlo w
  rwa [h] at this
theorem Clk.get_lo (a b c d e : Int) (h0 : 0 ≤ a) (h1 : 0 ≤ b) (h2 : 0 ≤ c) (h3 : 0 ≤ d) (h4 : 0 ≤ e) : ∀ i, -9223372036854775808 ≤ (⟨a, b, c, d, e⟩ : Clk).get i := by
  intro i
  match i with
  | 0 => simp only [Clk.get]; omega
  | 1 => simp only [Clk.get]; omega
  | 2 => simp only [Clk.get]; omega
  | 3 => simp only [Clk.get]; omega
  | 4 => simp only [Clk.get]; omega
  | n + 5 => simp [Clk.get]
theorem eqz (w : World) : (Op.equalIn 10000 23 (⟨0, 0, 0, 0, 0⟩ : Clk).val (⟨0, 0, 0, 0, 0⟩ : Clk).val).run Try.prog w = .ok true w := by rw [eql_clk]; simp
end Go.Proofs.Ytpamhedjdpfiaaa
