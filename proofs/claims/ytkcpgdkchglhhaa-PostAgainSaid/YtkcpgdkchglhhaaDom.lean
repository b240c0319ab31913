/- The things of this program, as Lean's. No condition. -/
import Derived.Test.YtkcpgdkchglhhaaSepX
namespace Go.Proofs.Ytkcpgdkchglhhaa
open Go.RowKit
set_option linter.unusedSimpArgs false
set_option linter.unusedVariables false
/-- An edit. -/
structure Ed where
  kind : Int
  key : List UInt8
  label : Int
  value : List UInt8
deriving DecidableEq
def Ed.cells (e : Ed) : List Value := [.int .i64 e.kind, .string (S e.key), .int .i64 e.label, .string (S e.value)]
def Ed.val (e : Ed) : Value := .agg e.cells.toArray
instance : Rep Ed := ⟨4, Ed.cells, by decide, fun _ => rfl, fun _ => rfl⟩
def sumB (l : List UInt8) : Int := (l.map fun b => (b.toNat : Int)).sum
theorem sumB_bd (l : List UInt8) : 0 ≤ sumB l ∧ sumB l ≤ 255 * l.length := by
  induction l with
  | nil => simp [sumB]
  | cons a l ih =>
    have := a.toNat_lt
    simp [sumB] at ih ⊢; omega
theorem sumB_succ (l : List UInt8) (k : Nat) (h : k < l.length) : sumB (l.take (k + 1)) = sumB (l.take k) + (l[k].toNat : Int) := by
  rw [List.take_succ_eq_append_getElem h]
  simp only [sumB, List.map_append, List.sum_append]
  simp
def fitKey (j : Int) : List UInt8 := if j = 0 then [97, 110, 110] else if j = 1 then [98, 111, 98] else [99, 121]
def fitValue (j : Int) : List UInt8 := if j = 0 then [49] else if j = 1 then [116, 119, 111] else if j = 2 then [0, 255] else [116, 119, 101, 108, 118, 101, 32, 98, 121, 116, 101, 115]
/-- An edit that may be, of anything. -/
def Ed.fit (e : Ed) : Ed :=
  ⟨1 + (e.kind.tmod 5 + 5) % 5, fitKey (sumB e.key % 3), if 2 < 1 + (e.kind.tmod 5 + 5) % 5 then e.label % 2 else 0, if 2 < 1 + (e.kind.tmod 5 + 5) % 5 then fitValue (sumB e.value % 4) else []⟩
theorem tmod5 (n : Int) : -5 < n.tmod 5 ∧ n.tmod 5 < 5 := ⟨Int.lt_tmod_of_pos n (by decide), Int.tmod_lt_of_pos n (by decide)⟩
end Go.Proofs.Ytkcpgdkchglhhaa
