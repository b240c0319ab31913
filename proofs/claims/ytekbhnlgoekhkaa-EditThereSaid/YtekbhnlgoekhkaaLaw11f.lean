/- EditThere, both labels. No condition. -/
import Derived.Test.YtekbhnlgoekhkaaLaw11d
import Derived.Test.YtekbhnlgoekhkaaLaw11e
import Derived.Test.YtekbhnlgoekhkaaSepG
namespace Go.Proofs.Ytekbhnlgoekhkaa
open Go.ChangeShapes Go.WideShapes Go.ChangeAt Go.RowKit
theorem editThere_fn (e : Ed) (b0 b1 : Bool) (n0 n1 n2 n3 : Int) (W : World) (hn0 : 0 ≤ n0 ∧ n0 ≤ 255) (hn1 : 0 ≤ n1 ∧ n1 ≤ 255) (hn2 : 0 ≤ n2 ∧ n2 ≤ 255) (hn3 : 0 ≤ n3 ∧ n3 ≤ 255) (hk : e.key.length ≤ 140737488355328) (hv : e.value.length ≤ 140737488355328) :
    Fn Try.prog 5 #[.agg (Rep.cells e).toArray, .agg [.bool b0, .bool b1].toArray, .agg [.int .u8 n0, .int .u8 n1, .int .u8 n2, .int .u8 n3].toArray] [Base W] fun v L' => v = .bool true ∧ L' = [Base W] := by
  rcases (Ed.err_ok (fit_err e)).2.2 with h | h
  · exact editThere0_fn e b0 b1 n0 n1 n2 n3 W hn0 hn1 hn2 hn3 hk hv h
  · exact editThere1_fn e b0 b1 n0 n1 n2 n3 W hn0 hn1 hn2 hn3 hk hv h
theorem okT_2bool {H : Type} {enc : TypeId × Value → H} {P : Program} {w : World} {t e : TypeId} {cs : List Value} (hu : P.underlying t = some (.array 2 e)) (hc : P.cellsOf t = 2) (hu2 : P.underlying e = some .bool) (hc2 : P.cellsOf e = 1) (h : OkT enc P w t cs) : ∃ a b : Bool, cs = [.bool a, .bool b] := by
  obtain ⟨hl, h1⟩ := okT_array hu h
  rw [hc] at hl
  rw [hc2] at h1
  obtain ⟨a, e1⟩ := okT_bool hu2 (h1 0 (by omega))
  obtain ⟨b, e2⟩ := okT_bool hu2 (h1 1 (by omega))
  match cs, hl with
  | [x, y], _ =>
    simp at e1 e2
    subst e1; subst e2
    exact ⟨a, b, rfl⟩
theorem okT_4u8 {H : Type} {enc : TypeId × Value → H} {P : Program} {w : World} {t e : TypeId} {cs : List Value} (hu : P.underlying t = some (.array 4 e)) (hc : P.cellsOf t = 4) (hu2 : P.underlying e = some (.int .u8)) (hc2 : P.cellsOf e = 1) (h : OkT enc P w t cs) : ∃ a b c d : Int, cs = [.int .u8 a, .int .u8 b, .int .u8 c, .int .u8 d] ∧ (0 ≤ a ∧ a ≤ 255) ∧ (0 ≤ b ∧ b ≤ 255) ∧ (0 ≤ c ∧ c ≤ 255) ∧ (0 ≤ d ∧ d ≤ 255) := by
  obtain ⟨hl, h1⟩ := okT_array hu h
  rw [hc] at hl
  rw [hc2] at h1
  obtain ⟨a, e1, i1⟩ := okT_u8i hu2 (h1 0 (by omega))
  obtain ⟨b, e2, i2⟩ := okT_u8i hu2 (h1 1 (by omega))
  obtain ⟨c, e3, i3⟩ := okT_u8i hu2 (h1 2 (by omega))
  obtain ⟨d, e4, i4⟩ := okT_u8i hu2 (h1 3 (by omega))
  match cs, hl with
  | [x, y, z, u], _ =>
    simp at e1 e2 e3 e4
    subst e1; subst e2; subst e3; subst e4
    exact ⟨a, b, c, d, rfl, i1, i2, i3, i4⟩
end Go.Proofs.Ytekbhnlgoekhkaa
