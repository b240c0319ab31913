/- More kinds of arguments. No condition. -/
import Derived.Test.YtkcpgdkchglhhaaSepG
namespace Go.Proofs.Ytkcpgdkchglhhaa
open Go.ChangeShapes Go.WideShapes Go.ChangeAt Go.RowKit
set_option linter.unusedSimpArgs false
set_option linter.unusedVariables false
/-- Two bytes. -/
structure B2 where
  x : UInt8
  y : UInt8
instance : Rep B2 := ⟨2, fun b => [.int .u8 b.x.toNat, .int .u8 b.y.toNat], by decide, fun _ => rfl, fun _ => rfl⟩
section
variable {H : Type} {enc : TypeId × Value → H} {P : Program} {w : World} {t : TypeId} {cs : List Value}
theorem okT_b2s {e e2 : TypeId} (hu : P.underlying t = some (.slice e)) (hs : P.cellsOf e = 2) (hb : P.bytesOf e = 2) (ha : P.underlying e = some (.array 2 e2)) (h2 : P.underlying e2 = some (.int .u8)) (hs2 : P.cellsOf e2 = 1) (h : OkT enc P w t cs) :
    ∃ v, ∃ l : List B2, cs = [v] ∧ v.oneCell' = true ∧ Sl w v 2 l.length (cellsOf l) ∧ l.length ≤ 140737488355328 := by
  obtain ⟨v, xs, h1, h2, h3, h4, h5⟩ := okT_list (α := B2) (fun _ => True) hu (by rw [hs]; rfl) (fun ecs h => by
    obtain ⟨xs, e, hl, _⟩ := okT_arrayL (α := UInt8) (fun _ => True) ha (by rw [hs2]; rfl) (by rw [hs]; rfl) (fun ecs h => okT_u8 h2 h) h
    match xs, hl with
    | [a, b], _ => exact ⟨⟨a, b⟩, e, trivial⟩) h
  rw [hb] at h5
  exact ⟨v, xs, h1, h2, h3, by simp [reachBytes] at h5; omega⟩
theorem okT_bl (hu : P.underlying t = some .bool) (h : OkT enc P w t cs) : ∃ b : Bool, cs = Rep.cells b ∧ True := by
  obtain ⟨b, e⟩ := okT_bool hu h
  exact ⟨b, e, trivial⟩
theorem okT_bools {e : TypeId} (hu : P.underlying t = some (.slice e)) (hs : P.cellsOf e = 1) (hb : P.bytesOf e = 1) (he : P.underlying e = some .bool) (h : OkT enc P w t cs) :
    ∃ v, ∃ l : List Bool, cs = [v] ∧ v.oneCell' = true ∧ Sl w v 1 l.length (cellsOf l) ∧ l.length ≤ 140737488355328 := by
  obtain ⟨v, xs, h1, h2, h3, h4, h5⟩ := okT_list (α := Bool) (fun _ => True) hu (by rw [hs]; rfl) (fun ecs h => okT_bl he h) h
  rw [hb] at h5
  exact ⟨v, xs, h1, h2, h3, by simp [reachBytes] at h5; omega⟩
theorem okT_u16i (hu : P.underlying t = some (.int .u16)) (h : OkT enc P w t cs) : ∃ n : Int, cs = [.int .u16 n] ∧ 0 ≤ n ∧ n ≤ 65535 := by
  obtain ⟨n, e, h⟩ := okT_int hu h
  have := bounds_u16 h
  exact ⟨n, e, by omega, by omega⟩
theorem okT_u32i (hu : P.underlying t = some (.int .u32)) (h : OkT enc P w t cs) : ∃ n : Int, cs = [.int .u32 n] ∧ 0 ≤ n ∧ n ≤ 4294967295 := by
  obtain ⟨n, e, h⟩ := okT_int hu h
  have := bounds_u32 h
  exact ⟨n, e, by omega, by omega⟩
theorem okT_boolv (hu : P.underlying t = some .bool) (h : OkT enc P w t cs) : ∃ b : Bool, cs = [.bool b] ∧ True := by
  obtain ⟨b, e⟩ := okT_bool hu h
  exact ⟨b, e, trivial⟩
theorem okT_3u8 {e : TypeId} (hu : P.underlying t = some (.array 3 e)) (hc : P.cellsOf t = 3) (hu2 : P.underlying e = some (.int .u8)) (hc2 : P.cellsOf e = 1) (h : OkT enc P w t cs) : ∃ a b c : UInt8, cs = [.int .u8 a.toNat, .int .u8 b.toNat, .int .u8 c.toNat] := by
  obtain ⟨xs, e, hl, _⟩ := okT_arrayL (α := UInt8) (fun _ => True) hu (by rw [hc2]; rfl) (by rw [hc]; rfl) (fun ecs h => okT_u8 hu2 h) h
  match xs, hl with
  | [a, b, c], _ => exact ⟨a, b, c, e⟩
theorem okT_i64r (hu : P.underlying t = some (.int .i64)) (h : OkT enc P w t cs) : ∃ n : Int, cs = Rep.cells n ∧ I64 n := okT_i64 hu h
theorem okT_3int {e : TypeId} (hu : P.underlying t = some (.array 3 e)) (hc : P.cellsOf t = 3) (hu2 : P.underlying e = some (.int .i64)) (hc2 : P.cellsOf e = 1) (h : OkT enc P w t cs) : ∃ a b c : Int, cs = [.int .i64 a, .int .i64 b, .int .i64 c] ∧ I64 a ∧ I64 b ∧ I64 c := by
  obtain ⟨xs, e, hl, hg⟩ := okT_arrayL (α := Int) I64 hu (by rw [hc2]; rfl) (by rw [hc]; rfl) (fun ecs h => okT_i64r hu2 h) h
  match xs, hl with
  | [a, b, c], _ => exact ⟨a, b, c, e, hg a (by simp), hg b (by simp), hg c (by simp)⟩
end
end Go.Proofs.Ytkcpgdkchglhhaa
