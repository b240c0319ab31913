/- A call of layer 16. No condition. -/
import Derived.Test.YtkcpgdkchglhhaaPostE
namespace Go.Proofs.Ytkcpgdkchglhhaa
open Go.RowKit
set_option linter.unusedSimpArgs false
set_option linter.unusedVariables false
def Clk.I (c : Clk) : Prop := ∀ i, i < 5 → I64 (c.get i)
structure Op16 where
  kind : Int
  many : Int
  back : Int
  r : Int
  c : Clk
  v : Value
  one : v.oneCell' = true
  l : List Ev
instance : Rep Op16 := ⟨10, fun o => [.int .u8 o.kind, .int .u8 o.many, .int .u8 o.back, .int .i64 o.r, .int .i64 o.c.a, .int .i64 o.c.b, .int .i64 o.c.c, .int .i64 o.c.d, .int .i64 o.c.e, o.v], by decide, fun _ => rfl, fun o => by simp only [List.all_cons, List.all_nil, o.one, Bool.and_true]; rfl⟩
structure Op16.Ok (L : List Assn) (o : Op16) : Prop where
  k : 0 ≤ o.kind ∧ o.kind ≤ 255
  m : 0 ≤ o.many ∧ o.many ≤ 255
  b : 0 ≤ o.back ∧ o.back ≤ 255
  r : I64 o.r
  c : o.c.I
  rd : RdT L o.v o.l
  n : ∀ e ∈ o.l, I64 e.n
end Go.Proofs.Ytkcpgdkchglhhaa
