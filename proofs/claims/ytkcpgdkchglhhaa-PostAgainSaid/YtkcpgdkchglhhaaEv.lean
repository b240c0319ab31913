/- Events. No condition. -/
import Derived.Test.YtkcpgdkchglhhaaDom
import Derived.Test.YtkcpgdkchglhhaaClkD
import Derived.Test.YtkcpgdkchglhhaaSepT
import Derived.Test.YtkcpgdkchglhhaaChecked
namespace Go.Proofs.Ytkcpgdkchglhhaa
open Go.RowKit
set_option linter.unusedSimpArgs false
set_option linter.unusedVariables false
structure Ev where
  r : Int
  n : Int
  c : Clk
  h : Int
  ed : Ed
deriving DecidableEq
instance : Rep Clk := ⟨5, fun k => [.int .i64 k.a, .int .i64 k.b, .int .i64 k.c, .int .i64 k.d, .int .i64 k.e], by decide, fun _ => rfl, fun _ => rfl⟩
instance : Rep Ev := ⟨12, fun e => [.int .i64 e.r, .int .i64 e.n, .int .i64 e.c.a, .int .i64 e.c.b, .int .i64 e.c.c, .int .i64 e.c.d, .int .i64 e.c.e, .int .i64 e.h, .int .i64 e.ed.kind, .string (S e.ed.key), .int .i64 e.ed.label, .string (S e.ed.value)], by decide, fun _ => rfl, fun _ => rfl⟩
def Ev.zero : Ev := ⟨0, 0, ⟨0, 0, 0, 0, 0⟩, 0, ⟨0, [], 0, []⟩⟩
instance : Inhabited Ev := ⟨Ev.zero⟩
instance : EqT Try.prog 55 Ev := ⟨6, [.i .i64, .i .i64, .i .i64, .i .i64, .i .i64, .i .i64, .i .i64, .i .i64, .i .i64, .s, .i .i64, .s], by kernel_rfl, by kernel_rfl, by kernel_rfl, by kernel_rfl, fun _ => rfl, fun a b h => by
  obtain ⟨a1, a2, ⟨a3, a4, a5, a6, a7⟩, a8, ⟨a9, a10, a11, a12⟩⟩ := a
  obtain ⟨b1, b2, ⟨b3, b4, b5, b6, b7⟩, b8, ⟨b9, b10, b11, b12⟩⟩ := b
  simp only [Rep.cells, List.cons.injEq, Value.int.injEq, Value.string.injEq, S_inj, true_and, and_true] at h
  simp [h]⟩
instance : ZRep Try.prog 55 Ev := ⟨Ev.zero, by kernel_rfl, by kernel_rfl⟩
end Go.Proofs.Ytkcpgdkchglhhaa
