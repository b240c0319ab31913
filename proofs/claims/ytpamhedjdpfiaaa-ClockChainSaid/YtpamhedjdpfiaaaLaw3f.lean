/- ClockChain, walked. No condition. -/
import Derived.Test.YtpamhedjdpfiaaaLaw3d
import Derived.Test.YtpamhedjdpfiaaaPut
namespace Go.Proofs.Ytpamhedjdpfiaaa
open Go.RowKit
set_option linter.unusedSimpArgs false
set_option linter.unusedVariables false
theorem join_is (x y z : Clk) (h : x.join y = z) (w : World) : Calls Try.prog 15 #[x.val, y.val] w fun e w' => e = .returned z.val ∧ Kp w w' := by
  subst h; exact clock_Join x y w
end Go.Proofs.Ytpamhedjdpfiaaa
