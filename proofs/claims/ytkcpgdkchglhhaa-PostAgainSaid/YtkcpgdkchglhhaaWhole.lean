/- Fields and elements of whole values. No condition. -/
import Derived.Test.YtkcpgdkchglhhaaSepG
import Derived.Test.YtkcpgdkchglhhaaClkD
namespace Go.Proofs.Ytkcpgdkchglhhaa
open Go.RowKit
set_option linter.unusedSimpArgs false
set_option linter.unusedVariables false
section
variable {P : Program} {f : Nat → Value} {L : List Assn} {d : Nat} {ty : TypeId} {pos : String} {af : Array Edge} {gd : Option (Nat × Bool)}
theorem extract_toArray (cs : List Value) (o m : Nat) : cs.toArray.extract o (o + m) = ((cs.drop o).take m).toArray := by
  simp [List.take_drop]
/-- x.f, of a whole structure: a structure or an array. -/
theorem vl_fieldV {s : TypeId} {x : Operand} {fi m : Nat} {fs : Array Field} {fd : Field} {cs ws : List Value} (hx : evalF f x = .agg cs.toArray) (hu : P.underlying s = some (.struct fs)) (hf : fs[fi]? = some fd) (hA : aggB P fd.type = some true) (hm : P.cellsOf fd.type = m)
    (hp : Nat.blt 0 m = true) (hl : seqL ((cs.drop fd.offset).take m) = some ws) : Val P ⟨some d, .field s x fi, ty, pos, af, gd⟩ f L (.agg ws.toArray) := fun F w h => by
  rw [← seqL_eq hl, ← extract_toArray]
  simp [execOp, hx, Instr.field, run_underlying hu, hf, asAgg, part, run_isAgg w hA, run_sizeOf' w hm (Nat.le_of_ble_eq_true hp)]
/-- x.f, of a whole structure: one cell. -/
theorem vl_field1V {s : TypeId} {x : Operand} {fi : Nat} {fs : Array Field} {fd : Field} {cs : List Value} {v : Value} (hx : evalF f x = .agg cs.toArray) (hu : P.underlying s = some (.struct fs)) (hf : fs[fi]? = some fd) (hA : aggB P fd.type = some false)
    (hl : cs[fd.offset]? = some v) : Val P ⟨some d, .field s x fi, ty, pos, af, gd⟩ f L v := fun F w h => by
  simp [execOp, hx, Instr.field, run_underlying hu, hf, asAgg, part, run_isAgg w hA, hl]
/-- x[j], of a whole array: one cell. -/
theorem vl_index1V {t e : TypeId} {x y : Operand} {k : IntKind} {n j : Nat} {cs : List Value} {v : Value} (hx : evalF f x = .agg cs.toArray) (hy : evalF f y = .int k (j : Int)) (hu : P.underlying t = some (.array n e)) (hA : aggB P e = some false) (hs : P.cellsOf e = 1) (hj : Nat.blt j n = true)
    (hl : cs[j]? = some v) : Val P ⟨some d, .index t x y, ty, pos, af, gd⟩ f L v := fun F w h => by
  have hj : j < n := Nat.le_of_ble_eq_true hj
  simp [execOp, hx, hy, Instr.index, run_underlying hu, asIntOf, part, run_isAgg w hA, run_sizeOf' w hs (Nat.succ_pos 0), hl, hj]
/-- c[j], of a whole clock, at any place. -/
theorem vl_indexC {t e : TypeId} {x y : Operand} {k : IntKind} {j : Int} {a b c d' e' : Int} (hx : evalF f x = .agg [.int .i64 a, .int .i64 b, .int .i64 c, .int .i64 d', .int .i64 e'].toArray) (hy : evalF f y = .int k j) (hu : P.underlying t = some (.array 5 e)) (hA : aggB P e = some false) (hs : P.cellsOf e = 1) (h0 : 0 ≤ j) (h1 : j < 5) :
    Val P ⟨some d, .index t x y, ty, pos, af, gd⟩ f L (.int .i64 ((⟨a, b, c, d', e'⟩ : Clk).get j.toNat)) := fun F w h => by
  obtain ⟨i, rfl⟩ := Int.eq_ofNat_of_zero_le h0
  have hi : i < 5 := by omega
  have hl : [Value.int .i64 a, .int .i64 b, .int .i64 c, .int .i64 d', .int .i64 e'][i]? = some (.int .i64 ((⟨a, b, c, d', e'⟩ : Clk).get i)) := by
    match i, hi with
    | 0, _ => rfl
    | 1, _ => rfl
    | 2, _ => rfl
    | 3, _ => rfl
    | 4, _ => rfl
  simp [execOp, hx, hy, Instr.index, run_underlying hu, asIntOf, part, run_isAgg w hA, run_sizeOf' w hs (Nat.succ_pos 0), hi]
  exact (List.getElem?_eq_some_iff.1 hl).2
end
end Go.Proofs.Ytkcpgdkchglhhaa
