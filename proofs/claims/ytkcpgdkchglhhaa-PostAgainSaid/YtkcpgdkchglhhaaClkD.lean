/- Clocks as five numbers. No condition. -/
import Derived.Test.YtkcpgdkchglhhaaBase
namespace Go.Proofs.Ytkcpgdkchglhhaa
open Go.RowKit
set_option linter.unusedSimpArgs false
set_option linter.unusedVariables false
structure Clk where
  a : Int
  b : Int
  c : Int
  d : Int
  e : Int
  deriving DecidableEq
def Clk.get (k : Clk) (i : Nat) : Int := match i with | 0 => k.a | 1 => k.b | 2 => k.c | 3 => k.d | 4 => k.e | _ => 0
@[reducible] def Clk.val (k : Clk) : Value := .agg #[.int .i64 k.a, .int .i64 k.b, .int .i64 k.c, .int .i64 k.d, .int .i64 k.e]
def Clk.join (x y : Clk) : Clk := ⟨max x.a y.a, max x.b y.b, max x.c y.c, max x.d y.d, max x.e y.e⟩
def Clk.le (x y : Clk) : Bool := x.a ≤ y.a && x.b ≤ y.b && x.c ≤ y.c && x.d ≤ y.d && x.e ≤ y.e
def Clk.set (k : Clk) (i : Nat) (v : Int) : Clk := match i with | 0 => { k with a := v } | 1 => { k with b := v } | 2 => { k with c := v } | 3 => { k with d := v } | 4 => { k with e := v } | _ => k
def Clk.zero : Clk := ⟨0, 0, 0, 0, 0⟩
def Clk.next (k : Clk) (r : Int) : Clk × Int := if r < 0 ∨ 5 ≤ r then (Clk.zero, 1) else if 1048576 ≤ k.get r.toNat then (Clk.zero, 25) else (k.set r.toNat (k.get r.toNat + 1), 0)
def Clk.has (k : Clk) (r n : Int) : Bool := 0 ≤ r && r < 5 && 1 ≤ n && n ≤ k.get r.toNat
end Go.Proofs.Ytkcpgdkchglhhaa
