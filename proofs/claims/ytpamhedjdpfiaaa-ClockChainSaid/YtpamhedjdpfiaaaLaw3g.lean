/- ClockChain, walked. No condition. -/
import Derived.Test.YtpamhedjdpfiaaaCc0
import Derived.Test.YtpamhedjdpfiaaaCc1
import Derived.Test.YtpamhedjdpfiaaaCc2
import Derived.Test.YtpamhedjdpfiaaaCc3
import Derived.Test.YtpamhedjdpfiaaaCc4
namespace Go.Proofs.Ytpamhedjdpfiaaa
open Go.RowKit
theorem clockChain_walk (a : Clk) (r : Int) (hr : 0 ≤ r ∧ r ≤ 255) (n : Int) (hn : 0 ≤ n ∧ n ≤ 255) (w : World) : Calls Try.prog 10 #[a.val, .int .u8 r, .int .u8 n] w (Yes w) := by
  have b : ∀ x : Int, 0 ≤ x % 512 ∧ x % 512 < 512 := fun x => by omega
  have h : r % 5 = 0 ∨ r % 5 = 1 ∨ r % 5 = 2 ∨ r % 5 = 3 ∨ r % 5 = 4 := by omega
  rcases h with h | h | h | h | h
  · exact clockChain_0 _ _ _ _ _ (b _) (b _) (b _) (b _) (b _) a ⟨rfl, rfl, rfl, rfl, rfl⟩ r hr h n hn w
  · exact clockChain_1 _ _ _ _ _ (b _) (b _) (b _) (b _) (b _) a ⟨rfl, rfl, rfl, rfl, rfl⟩ r hr h n hn w
  · exact clockChain_2 _ _ _ _ _ (b _) (b _) (b _) (b _) (b _) a ⟨rfl, rfl, rfl, rfl, rfl⟩ r hr h n hn w
  · exact clockChain_3 _ _ _ _ _ (b _) (b _) (b _) (b _) (b _) a ⟨rfl, rfl, rfl, rfl, rfl⟩ r hr h n hn w
  · exact clockChain_4 _ _ _ _ _ (b _) (b _) (b _) (b _) (b _) a ⟨rfl, rfl, rfl, rfl, rfl⟩ r hr h n hn w
end Go.Proofs.Ytpamhedjdpfiaaa
