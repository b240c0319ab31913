/- Edits that were made such as may be. No condition. -/
import Derived.Test.YtekbhnlgoekhkaaEditD
import Derived.Test.YtekbhnlgoekhkaaFit
namespace Go.Proofs.Ytekbhnlgoekhkaa
open Go.RowKit
set_option linter.unusedSimpArgs false
set_option linter.unusedVariables false
theorem fit_key (e : Ed) : e.fit.key = [97, 110, 110] ∨ e.fit.key = [98, 111, 98] ∨ e.fit.key = [99, 121] := by
  show fitKey _ = _ ∨ fitKey _ = _ ∨ fitKey _ = _
  unfold fitKey
  split
  · simp
  · split <;> simp
theorem fit_value (e : Ed) : e.fit.value = [] ∨ e.fit.value = [49] ∨ e.fit.value = [116, 119, 111] ∨ e.fit.value = [0, 255] ∨ e.fit.value = [116, 119, 101, 108, 118, 101, 32, 98, 121, 116, 101, 115] := by
  simp only [Ed.fit]
  split
  · unfold fitValue
    split
    · simp
    · split
      · simp
      · split <;> simp
  · simp
theorem fit_err (e : Ed) : e.fit.err = 0 := by
  have hk := fit_key e
  have hke : keyE e.fit.key = 0 := by rcases hk with h | h | h <;> rw [h] <;> decide
  have h1 := tmod5 e.kind
  have h2 : 0 ≤ (e.kind.tmod 5 + 5) % 5 ∧ (e.kind.tmod 5 + 5) % 5 < 5 := by omega
  have hkd : e.fit.kind = 1 + (e.kind.tmod 5 + 5) % 5 := rfl
  unfold Ed.err
  rw [if_neg (by omega), hke, if_neg (by omega)]
  by_cases h3 : 2 < 1 + (e.kind.tmod 5 + 5) % 5
  · rw [if_neg (by omega)]
    have hl : e.fit.label = e.label % 2 := by simp only [Ed.fit]; rw [if_pos h3]
    have hv : e.fit.value = fitValue (sumB e.value % 4) := by simp only [Ed.fit]; rw [if_pos h3]
    have hle : labelE e.fit.label = 0 := by rw [hl]; unfold labelE; rw [if_pos (by omega)]
    rw [hle, if_neg (by omega), hv]
    unfold fitValue
    split
    · decide
    · split
      · decide
      · split <;> decide
  · rw [if_pos (by omega)]
    have hl : e.fit.label = 0 := by simp only [Ed.fit]; rw [if_neg h3]
    have hv : e.fit.value = [] := by simp only [Ed.fit]; rw [if_neg h3]
    rw [hl, if_neg (by omega), hv, if_neg (by simp)]
theorem fit_F (e : Ed) (L : List Assn) (hk : e.key.length ≤ 140737488355328) (hv : e.value.length ≤ 140737488355328) : Fn Try.prog 16 #[.agg (Rep.cells e).toArray] L fun v L' => v = .agg (Rep.cells e.fit).toArray ∧ L' = L := fit_spec e L hk hv
end Go.Proofs.Ytekbhnlgoekhkaa
