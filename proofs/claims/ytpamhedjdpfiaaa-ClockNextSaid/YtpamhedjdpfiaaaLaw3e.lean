/- ClockNext, walked. No condition. -/
import Derived.Test.YtpamhedjdpfiaaaCn0
import Derived.Test.YtpamhedjdpfiaaaCn1
import Derived.Test.YtpamhedjdpfiaaaCn2
import Derived.Test.YtpamhedjdpfiaaaCn3
import Derived.Test.YtpamhedjdpfiaaaCn4
namespace Go.Proofs.Ytpamhedjdpfiaaa
open Go.RowKit
theorem clockNext_walk (a : Clk) (r : Int) (hr : 0 ≤ r ∧ r ≤ 255) (mr mn : Int) (w : World) : Calls Try.prog 9 #[a.val, .int .u8 r, .agg #[.int .i64 mr, .int .i64 mn]] w (Yes w) := by
  have b : ∀ x : Int, 0 ≤ x % 1048576 ∧ x % 1048576 < 1048576 := fun x => by omega
  have h : r % 5 = 0 ∨ r % 5 = 1 ∨ r % 5 = 2 ∨ r % 5 = 3 ∨ r % 5 = 4 := by omega
  rcases h with h | h | h | h | h
  · exact clockNext_0 _ _ _ _ _ (b _) (b _) (b _) (b _) (b _) a ⟨rfl, rfl, rfl, rfl, rfl⟩ r hr h mr mn w
  · exact clockNext_1 _ _ _ _ _ (b _) (b _) (b _) (b _) (b _) a ⟨rfl, rfl, rfl, rfl, rfl⟩ r hr h mr mn w
  · exact clockNext_2 _ _ _ _ _ (b _) (b _) (b _) (b _) (b _) a ⟨rfl, rfl, rfl, rfl, rfl⟩ r hr h mr mn w
  · exact clockNext_3 _ _ _ _ _ (b _) (b _) (b _) (b _) (b _) a ⟨rfl, rfl, rfl, rfl, rfl⟩ r hr h mr mn w
  · exact clockNext_4 _ _ _ _ _ (b _) (b _) (b _) (b _) (b _) a ⟨rfl, rfl, rfl, rfl, rfl⟩ r hr h mr mn w
end Go.Proofs.Ytpamhedjdpfiaaa
