/- Several texts, one behind the other; each says in its head what it proves. No condition. -/
import Derived.Test.YtkcpgdkchglhhaaZpdemmjlf
import Derived.Test.YtkcpgdkchglhhaaZldjckhlk
/- Clocks are compared cell by cell. No condition. -/
namespace Go.Proofs.Ytkcpgdkchglhhaa
open Go.RowKit
set_option linter.unusedSimpArgs false
set_option linter.unusedVariables false
set_option maxRecDepth 20000
instance : EqT Try.prog 33 Clk := ⟨6, [.i .i64, .i .i64, .i .i64, .i .i64, .i .i64], by kernel_rfl, by kernel_rfl, by kernel_rfl, by kernel_rfl, fun _ => rfl, fun a b h => by
  obtain ⟨a1, a2, a3, a4, a5⟩ := a
  obtain ⟨b1, b2, b3, b4, b5⟩ := b
  simp only [Rep.cells, List.cons.injEq, Value.int.injEq, true_and, and_true] at h
  simp [h]⟩
end Go.Proofs.Ytkcpgdkchglhhaa
