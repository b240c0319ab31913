/- A shelf, in plain words. No condition. -/
import Derived.Test.YtkcpgdkchglhhaaEv
namespace Go.Proofs.Ytkcpgdkchglhhaa
open Go.RowKit
set_option linter.unusedSimpArgs false
set_option linter.unusedVariables false
/-- The numbers rise by one, from one that is not too great. -/
def GapOk (len : Int) (l : List Ev) : Prop := ∀ h : 0 < l.length, (l[0]'h).n ≤ len + 1 ∧ ∀ j (hj : j < l.length), (l[j]'hj).n = (l[0]'h).n + j
def fresh (len : Int) (l : List Ev) : List Ev := l.filter fun e => decide (len < e.n)
open Classical in
/-- What Put tells, and what it puts. -/
noncomputable def putR (most len k : Int) (l : List Ev) : Int × List Ev :=
  if ¬ GapOk len l then (20, []) else if fresh len l ≠ [] ∧ most < k + (fresh len l).length then (21, []) else (0, fresh len l)
theorem putR_gap {most len k : Int} {l : List Ev} (h : ¬ GapOk len l) : putR most len k l = (20, []) := by unfold putR; rw [if_pos h]
theorem putR_full {most len k : Int} {l : List Ev} (h : GapOk len l) (h2 : fresh len l ≠ []) (h3 : most < k + (fresh len l).length) : putR most len k l = (21, []) := by
  unfold putR; rw [if_neg (by simpa using h), if_pos ⟨h2, h3⟩]
theorem putR_ok {most len k : Int} {l : List Ev} (h : GapOk len l) (h2 : fresh len l = [] ∨ k + (fresh len l).length ≤ most) : putR most len k l = (0, fresh len l) := by
  unfold putR; rw [if_neg (by simpa using h), if_neg (by rintro ⟨a, b⟩; rcases h2 with h2 | h2; exact a h2; omega)]
/-- What is left of a row whose first ones are not new. -/
theorem fresh_drop {len : Int} {l : List Ev} (h : GapOk len l) (j : Nat) (hj : j ≤ l.length) (ho : ∀ i (hi : i < l.length), i < j → (l[i]'hi).n ≤ len) (hn : j = l.length ∨ ∃ h : j < l.length, len < (l[j]'h).n) : fresh len l = l.drop j := by
  unfold fresh
  have e : l = l.take j ++ l.drop j := (List.take_append_drop j l).symm
  have h1 : (l.take j).filter (fun e => decide (len < e.n)) = [] := by
    rw [List.filter_eq_nil_iff]
    intro a ha
    obtain ⟨i, hi, rfl⟩ := List.getElem_of_mem ha
    simp only [List.length_take] at hi
    rw [List.getElem_take]
    have := ho i (by omega) (by omega)
    simp; omega
  have h2 : (l.drop j).filter (fun e => decide (len < e.n)) = l.drop j := by
    rw [List.filter_eq_self]
    intro a ha
    obtain ⟨i, hi, rfl⟩ := List.getElem_of_mem ha
    simp only [List.length_drop] at hi
    rcases hn with rfl | ⟨hl, hn⟩
    · omega
    · rw [List.getElem_drop]
      have := (h (by omega)).2
      rw [this _ (by omega)]
      rw [this _ hl] at hn
      simp; omega
  conv => lhs; rw [e, List.filter_append, h1, List.nil_append, h2]
/-- Events of numbers from one on. -/
def evN (n : Int) : Ev := ⟨0, n, ⟨0, 0, 0, 0, 0⟩, n, ⟨0, [], 0, []⟩⟩
def rowE (a : Int) (m : Nat) : List Ev := (List.range m).map fun (i : Nat) => evN (a + i)
theorem rowE_len (a : Int) (m : Nat) : (rowE a m).length = m := by simp [rowE]
theorem rowE_get (a : Int) (m i : Nat) (h : i < (rowE a m).length) : (rowE a m)[i] = evN (a + i) := by simp [rowE]
theorem rowE_gap (len a : Int) (m : Nat) : GapOk len (rowE a m) ↔ m = 0 ∨ a ≤ len + 1 := by
  unfold GapOk
  constructor
  · intro h
    by_cases hm : m = 0
    · exact .inl hm
    · have := (h (by rw [rowE_len]; omega)).1
      rw [rowE_get] at this
      simp [evN] at this
      exact .inr this
  · rintro (h | h) hl
    · rw [rowE_len] at hl; omega
    · refine ⟨by rw [rowE_get]; simp [evN]; exact h, fun j hj => ?_⟩
      rw [rowE_get, rowE_get]
      simp [evN]
theorem rowE_fresh (len a : Int) (m : Nat) (h : a ≤ len + 1) : fresh len (rowE a m) = rowE (len + 1) (m - (len + 1 - a).toNat) := by
  have hg : GapOk len (rowE a m) := (rowE_gap len a m).2 (.inr h)
  obtain ⟨j, hj⟩ : ∃ j, j = min m (len + 1 - a).toNat := ⟨_, rfl⟩
  rw [fresh_drop hg j (by rw [rowE_len]; omega) (fun i hi hij => by rw [rowE_get]; simp [evN]; omega) (by
    by_cases hm : j = m
    · left; rw [rowE_len]; exact hm
    · right; exact ⟨by rw [rowE_len]; omega, by rw [rowE_get]; simp [evN]; omega⟩)]
  apply List.ext_getElem
  · simp [rowE_len]; omega
  · intro i h1 h2
    rw [List.getElem_drop, rowE_get, rowE_get]
    simp only [List.length_drop, rowE_len] at h1
    congr 1
    omega
end Go.Proofs.Ytkcpgdkchglhhaa
