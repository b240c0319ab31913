/- Several texts, one behind the other; each says in its head what it proves. No condition. -/
import Derived.Test.YtcclbplccnaonaaZpgmlloom
/- Walks of kithref05: each returns what the plain functions say. No condition. -/
namespace Go.Proofs.Ytcclbplccnaonaa
open Go.RowKit
set_option linter.unusedSimpArgs false
set_option linter.unusedVariables false
theorem ref5_Label (n : Int) (w : World) :
    Calls Try.prog 57 #[.int .i64 n] w fun e w' => e = .returned (.int .i64 (labelErr n)) ∧ Kp w w' := by
  have hn : n = 0 ∨ n = 1 ∨ n < 0 ∨ 2 ≤ n := by omega
  rcases hn with rfl | rfl | h | h
  · rw [labelErr_0]
    (go_enter Try.func57, Try.ntmps57; go_wp2_with fail; go_returns; exact ⟨rfl, by (repeat' (first | (with_reducible exact Kp.refl _) | (with_reducible assumption) | (with_reducible refine Kp.alloc ?_ _) | (with_reducible refine Kp.ext ?_ _) | (with_reducible refine Kp.put ?_ _ _ _ ?_) | (with_reducible refine Kp.drew ?_) | (with_reducible refine Kp.drewN ?_ _) | (with_reducible refine Kp.setCell ?_ ?_ _) | (with_reducible refine Kp.trans ?_ (by assumption)) | (with_reducible exact Nat.le_refl _) | omega | (simp only [World.size_alloc, World.size_setCell, World.size_drew, size_drewN]; omega) | (simp; omega) | (simp; done)))⟩)
  · rw [labelErr_1]
    (go_enter Try.func57, Try.ntmps57; go_wp2_with fail; go_returns; exact ⟨rfl, by (repeat' (first | (with_reducible exact Kp.refl _) | (with_reducible assumption) | (with_reducible refine Kp.alloc ?_ _) | (with_reducible refine Kp.ext ?_ _) | (with_reducible refine Kp.put ?_ _ _ _ ?_) | (with_reducible refine Kp.drew ?_) | (with_reducible refine Kp.drewN ?_ _) | (with_reducible refine Kp.setCell ?_ ?_ _) | (with_reducible refine Kp.trans ?_ (by assumption)) | (with_reducible exact Nat.le_refl _) | omega | (simp only [World.size_alloc, World.size_setCell, World.size_drew, size_drewN]; omega) | (simp; omega) | (simp; done)))⟩)
  · rw [labelErr_no n (.inl h)]
    have h1 : (n == 0) = false := by simp; omega
    have h2 : (n == 1) = false := by simp; omega
    (go_enter Try.func57, Try.ntmps57; go_wp2_with fail; go_returns; exact ⟨rfl, by (repeat' (first | (with_reducible exact Kp.refl _) | (with_reducible assumption) | (with_reducible refine Kp.alloc ?_ _) | (with_reducible refine Kp.ext ?_ _) | (with_reducible refine Kp.put ?_ _ _ _ ?_) | (with_reducible refine Kp.drew ?_) | (with_reducible refine Kp.drewN ?_ _) | (with_reducible refine Kp.setCell ?_ ?_ _) | (with_reducible refine Kp.trans ?_ (by assumption)) | (with_reducible exact Nat.le_refl _) | omega | (simp only [World.size_alloc, World.size_setCell, World.size_drew, size_drewN]; omega) | (simp; omega) | (simp; done)))⟩)
  · rw [labelErr_no n (.inr h)]
    have h1 : (n == 0) = false := by simp; omega
    have h2 : (n == 1) = false := by simp; omega
    (go_enter Try.func57, Try.ntmps57; go_wp2_with fail; go_returns; exact ⟨rfl, by (repeat' (first | (with_reducible exact Kp.refl _) | (with_reducible assumption) | (with_reducible refine Kp.alloc ?_ _) | (with_reducible refine Kp.ext ?_ _) | (with_reducible refine Kp.put ?_ _ _ _ ?_) | (with_reducible refine Kp.drew ?_) | (with_reducible refine Kp.drewN ?_ _) | (with_reducible refine Kp.setCell ?_ ?_ _) | (with_reducible refine Kp.trans ?_ (by assumption)) | (with_reducible exact Nat.le_refl _) | omega | (simp only [World.size_alloc, World.size_setCell, World.size_drew, size_drewN]; omega) | (simp; omega) | (simp; done)))⟩)
theorem ref5_Value (s : ByteArray) (w : World) (hs : s.size ≤ 9223372036854775807) :
    Calls Try.prog 58 #[.string s] w fun e w' => e = .returned (.int .i64 (valueErr s)) ∧ Kp w w' := by
  have hn : (1 ≤ s.size ∧ s.size ≤ 12) ∨ s.size < 1 ∨ 12 < s.size := by omega
  rcases hn with ⟨h1, h2⟩ | h | h
  · rw [valueErr_ok s h1 h2]
    (go_enter Try.func58, Try.ntmps58; go_wp2_with fail; go_returns; exact ⟨rfl, by (repeat' (first | (with_reducible exact Kp.refl _) | (with_reducible assumption) | (with_reducible refine Kp.alloc ?_ _) | (with_reducible refine Kp.ext ?_ _) | (with_reducible refine Kp.put ?_ _ _ _ ?_) | (with_reducible refine Kp.drew ?_) | (with_reducible refine Kp.drewN ?_ _) | (with_reducible refine Kp.setCell ?_ ?_ _) | (with_reducible refine Kp.trans ?_ (by assumption)) | (with_reducible exact Nat.le_refl _) | omega | (simp only [World.size_alloc, World.size_setCell, World.size_drew, size_drewN]; omega) | (simp; omega) | (simp; done)))⟩)
  · rw [valueErr_no s (.inl h)]
    (go_enter Try.func58, Try.ntmps58; go_wp2_with fail; go_returns; exact ⟨rfl, by (repeat' (first | (with_reducible exact Kp.refl _) | (with_reducible assumption) | (with_reducible refine Kp.alloc ?_ _) | (with_reducible refine Kp.ext ?_ _) | (with_reducible refine Kp.put ?_ _ _ _ ?_) | (with_reducible refine Kp.drew ?_) | (with_reducible refine Kp.drewN ?_ _) | (with_reducible refine Kp.setCell ?_ ?_ _) | (with_reducible refine Kp.trans ?_ (by assumption)) | (with_reducible exact Nat.le_refl _) | omega | (simp only [World.size_alloc, World.size_setCell, World.size_drew, size_drewN]; omega) | (simp; omega) | (simp; done)))⟩)
  · rw [valueErr_no s (.inr h)]
    (go_enter Try.func58, Try.ntmps58; go_wp2_with fail; go_returns; exact ⟨rfl, by (repeat' (first | (with_reducible exact Kp.refl _) | (with_reducible assumption) | (with_reducible refine Kp.alloc ?_ _) | (with_reducible refine Kp.ext ?_ _) | (with_reducible refine Kp.put ?_ _ _ _ ?_) | (with_reducible refine Kp.drew ?_) | (with_reducible refine Kp.drewN ?_ _) | (with_reducible refine Kp.setCell ?_ ?_ _) | (with_reducible refine Kp.trans ?_ (by assumption)) | (with_reducible exact Nat.le_refl _) | omega | (simp only [World.size_alloc, World.size_setCell, World.size_drew, size_drewN]; omega) | (simp; omega) | (simp; done)))⟩)
set_option maxHeartbeats 800000 in
theorem ref5_Key (s : ByteArray) (w : World) (hs : s.size ≤ 9223372036854775807) :
    Calls Try.prog 56 #[.string s] w fun e w' => e = .returned (.int .i64 (keyErr s)) ∧ Kp w w' := by
  by_cases hz : 1 ≤ s.size ∧ s.size ≤ 8
  · obtain ⟨hz1, hz8⟩ := hz
    have HK := Lib.hid (show s.data.toList.all letter = true → keyErr s = 0 from fun h => by unfold keyErr; rw [if_pos ⟨hz1, hz8, h⟩])
    have HN := Lib.hid (show s.data.toList.all letter = false → keyErr s = 10 from fun h => by unfold keyErr; rw [if_neg (fun k => by rw [h] at k; exact absurd k.2.2 (by decide))])
    go_enter Try.func56, Try.ntmps56
    go_wp2_with fail
    go_loop [3] (fun i => ∃ k : Nat, k ≤ s.size ∧ i = .int .i64 k ∧ Hid ((s.data.toList.take k).all letter = true)) (fun i => s.size - (intOf i).toNat)
    case atStart => exact ⟨0, Nat.zero_le _, rfl, Lib.hid (by simp)⟩
    case round =>
      obtain ⟨k, hk, rfl, H⟩ := hrel
      by_cases hlt : k < s.size
      · by_cases hl : 97 ≤ (s[k]'hlt).toNat ∧ (s[k]'hlt).toNat ≤ 122
        · obtain ⟨h1, h2⟩ := hl
          go_wp2_with fail
          go_round
          case rel => exact ⟨k + 1, by omega, by go_num, Lib.hid (all_take_succ _ _ (by simpa using hlt) _ H.out (letter_at s k _ hlt rfl ⟨h1, h2⟩))⟩
          case measure => simp [intOf]; omega
        · have hl' : (s[k]'hlt).toNat < 97 ∨ 122 < (s[k]'hlt).toNat := by omega
          clear hl
          have e : keyErr s = 10 := HN.out (by
            cases e : s.data.toList.all letter with
            | false => rfl
            | true =>
              have := List.all_eq_true.1 e (s[k]'hlt) (mem_byte s k hlt)
              simp [letter] at *; omega)
          have E := Lib.hid e
          clear e
          rcases hl' with hl' | hl'
          all_goals
            go_wp2_with fail
            go_returns
            rw [E.out]
            exact ⟨rfl, by (repeat' (first | (with_reducible exact Kp.refl _) | (with_reducible assumption) | (with_reducible refine Kp.alloc ?_ _) | (with_reducible refine Kp.ext ?_ _) | (with_reducible refine Kp.put ?_ _ _ _ ?_) | (with_reducible refine Kp.drew ?_) | (with_reducible refine Kp.drewN ?_ _) | (with_reducible refine Kp.setCell ?_ ?_ _) | (with_reducible refine Kp.trans ?_ (by assumption)) | (with_reducible exact Nat.le_refl _) | omega | (simp only [World.size_alloc, World.size_setCell, World.size_drew, size_drewN]; omega) | (simp; omega) | (simp; done)))⟩
      · have E := Lib.hid (HK.out (by have := H.out; rwa [List.take_of_length_le (by simp; omega)] at this))
        go_wp2_with fail
        go_returns
        rw [E.out]
        exact ⟨rfl, by (repeat' (first | (with_reducible exact Kp.refl _) | (with_reducible assumption) | (with_reducible refine Kp.alloc ?_ _) | (with_reducible refine Kp.ext ?_ _) | (with_reducible refine Kp.put ?_ _ _ _ ?_) | (with_reducible refine Kp.drew ?_) | (with_reducible refine Kp.drewN ?_ _) | (with_reducible refine Kp.setCell ?_ ?_ _) | (with_reducible refine Kp.trans ?_ (by assumption)) | (with_reducible exact Nat.le_refl _) | omega | (simp only [World.size_alloc, World.size_setCell, World.size_drew, size_drewN]; omega) | (simp; omega) | (simp; done)))⟩
  · have e : keyErr s = 10 := by unfold keyErr; rw [if_neg (fun h => hz ⟨h.1, h.2.1⟩)]
    rw [e]
    have hz' : s.size < 1 ∨ 8 < s.size := by omega
    clear hz e
    rcases hz' with hz | hz
    all_goals (go_enter Try.func56, Try.ntmps56; go_wp2_with fail; go_returns; exact ⟨rfl, by (repeat' (first | (with_reducible exact Kp.refl _) | (with_reducible assumption) | (with_reducible refine Kp.alloc ?_ _) | (with_reducible refine Kp.ext ?_ _) | (with_reducible refine Kp.put ?_ _ _ _ ?_) | (with_reducible refine Kp.drew ?_) | (with_reducible refine Kp.drewN ?_ _) | (with_reducible refine Kp.setCell ?_ ?_ _) | (with_reducible refine Kp.trans ?_ (by assumption)) | (with_reducible exact Nat.le_refl _) | omega | (simp only [World.size_alloc, World.size_setCell, World.size_drew, size_drewN]; omega) | (simp; omega) | (simp; done)))⟩)
end Go.Proofs.Ytcclbplccnaonaa
