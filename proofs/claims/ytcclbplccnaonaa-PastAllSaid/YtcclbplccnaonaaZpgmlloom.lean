/- Several texts, one behind the other; each says in its head what it proves. No condition. -/
import Derived.Test.YtcclbplccnaonaaChecked
import Derived.Test.YtcclbplccnaonaaZemefjcfc
import Derived.Lib.Strings
/- Walks of package text: each returns what the plain functions below say. No condition. -/
namespace Go.Proofs.Ytcclbplccnaonaa
open Go.RowKit
set_option linter.unusedSimpArgs false
set_option linter.unusedVariables false
def letter (c : UInt8) : Bool := 97 ≤ c.toNat && c.toNat ≤ 122
def keyErr (s : ByteArray) : Int := if 1 ≤ s.size ∧ s.size ≤ 8 ∧ s.data.toList.all letter = true then 0 else 10
def labelErr (n : Int) : Int := if 0 ≤ n ∧ n < 2 then 0 else 11
def valueErr (s : ByteArray) : Int := if 1 ≤ s.size ∧ s.size ≤ 12 then 0 else 12
theorem decode_high (s : ByteArray) (i : Nat) (h : i < s.size) (hb : 128 ≤ (s[i]'h).toNat) : 128 ≤ (Utf8.decode s i).1 := by
  have e : s.get! (i + 0) = s[i]'h := by
    show s.get! i = _
    simp [ByteArray.get!, getElem!_pos, h]
    rfl
  simp only [Utf8.decode, e]
  rw [if_neg (by omega)]
  split
  · split <;> simp_all [Utf8.runeError]
  · split
    · split <;> simp_all [Utf8.runeError]; omega
    · split
      · split <;> simp_all [Utf8.runeError]; omega
      · simp [Utf8.runeError]
theorem run_next_any {P : Program} (w : World) (s : ByteArray) (pos : Nat) (ty : TypeId) (h : pos < s.size) :
    (Instr.next (.pointer (some ⟨w.heap.size, 0, none⟩)) true ty).run P (w.iter s pos) =
      .ok (.tuple #[.bool true, .int .i64 pos, .int .i32 (Utf8.decode s pos).1]) (w.iter s (pos + (Utf8.decode s pos).2)) := by
  simp only [Instr.next, getObj, setObj, Sem.run_bind, Sem.run, World.iter_heap, Result.andThen, h, if_true, World.iter_set]
  simp [goInt, Sem.run, World.iter_heap, World.iter_set]
theorem all_take_succ (l : List UInt8) (k : Nat) (h : k < l.length) (p : UInt8 → Bool) (hp : (l.take k).all p = true) (hk : p l[k] = true) : (l.take (k + 1)).all p = true := by
  rw [List.take_succ_eq_append_getElem h, List.all_append, hp]
  simp [hk]
theorem mem_byte (s : ByteArray) (k : Nat) (h : k < s.size) : s[k]'h ∈ s.data.toList := by
  show s.data[k]'h ∈ _
  simp
theorem letter_at (s : ByteArray) (k c : Nat) (h : k < s.size) (hc : c = (s[k]'h).toNat) (hl : 97 ≤ c ∧ c ≤ 122) : letter (s.data.toList[k]'(by simpa using h)) = true := by
  have e : (s.data.toList[k]'(by simpa using h)) = s[k]'h := by simp; rfl
  rw [e]
  simp [letter]
  omega
def iterAtPos (w : World) (b : Nat) : Nat := match w.heap[b]? with | some (.stringIter _ p) => p | _ => 0
theorem iterAtPos_iter (w : World) (s : ByteArray) (k : Nat) : iterAtPos (w.iter s k) w.heap.size = k := by
  unfold iterAtPos; rw [World.iter_heap]
theorem Kp.iter {a w : World} (h : Kp a w) (s : ByteArray) (k : Nat) : Kp a (w.iter s k) := Kp.alloc h _
set_option maxHeartbeats 800000 in
theorem text_Key (s : ByteArray) (w : World) (hs : s.size ≤ 9223372036854775807) :
    Calls Try.prog 52 #[.string s] w fun e w' => e = .returned (.int .i64 (keyErr s)) ∧ Kp w w' := by
  by_cases hz : 1 ≤ s.size ∧ s.size ≤ 8
  · obtain ⟨hz1, hz8⟩ := hz
    have HK := Lib.hid (show s.data.toList.all letter = true → keyErr s = 0 from fun h => by unfold keyErr; rw [if_pos ⟨hz1, hz8, h⟩])
    have HN := Lib.hid (show s.data.toList.all letter = false → keyErr s = 10 from fun h => by unfold keyErr; rw [if_neg (fun k => by rw [h] at k; exact absurd k.2.2 (by decide))])
    go_enter Try.func52, Try.ntmps52
    go_wp2_with fail
    go_loopw [4] (fun _ wr => ∃ k : Nat, k ≤ s.size ∧ wr = w.iter s k ∧ Hid ((s.data.toList.take k).all letter = true)) (fun _ wr => s.size - iterAtPos wr w.heap.size)
    case atStart => exact ⟨0, Nat.zero_le _, rfl, Lib.hid (by simp)⟩
    case round =>
      obtain ⟨k, hk, rfl, H⟩ := hrel
      by_cases hlt : k < s.size
      · by_cases ha : (s[k]'hlt).toNat < 128
        · have hn := fun ty => run_next_ascii (P := Try.prog) w s k ty hlt ha
          obtain ⟨c, hc⟩ : ∃ c : Nat, c = (s[k]'hlt).toNat := ⟨_, rfl⟩
          rw [← hc] at ha hn
          have HC := Lib.hid hc
          clear hc
          by_cases hl : 97 ≤ c ∧ c ≤ 122
          · obtain ⟨h1, h2⟩ := hl
            go_wp2_with fail
            go_roundw
            case rel => exact ⟨k + 1, by omega, rfl, Lib.hid (all_take_succ _ _ (by simpa using hlt) _ H.out (letter_at s k c hlt HC.out ⟨h1, h2⟩))⟩
            case measure => rw [iterAtPos_iter, iterAtPos_iter]; omega
          · have hl' : c < 97 ∨ 122 < c := by omega
            clear hl
            have e : keyErr s = 10 := HN.out (by
              cases e : s.data.toList.all letter with
              | false => rfl
              | true =>
                have := List.all_eq_true.1 e (s[k]'hlt) (mem_byte s k hlt)
                have := HC.out
                simp [letter] at *; omega)
            have E := Lib.hid e
            clear e
            rcases hl' with hl' | hl'
            all_goals
              go_wp2_with fail
              go_returns
              rw [E.out]
              exact ⟨rfl, by (repeat' (first | (with_reducible exact Kp.refl _) | (with_reducible refine Kp.iter ?_ _ _)))⟩
        · have hn := fun ty => run_next_any (P := Try.prog) w s k ty hlt
          have hd := decode_high s k hlt (by omega)
          obtain ⟨d, hd'⟩ : ∃ d, d = Utf8.decode s k := ⟨_, rfl⟩
          rw [← hd'] at hd hn
          have e : keyErr s = 10 := HN.out (by
            cases e : s.data.toList.all letter with
            | false => rfl
            | true =>
              have := List.all_eq_true.1 e (s[k]'hlt) (mem_byte s k hlt)
              simp [letter] at *; omega)
          have E := Lib.hid e
          clear e hd' ha
          go_wp2_with fail
          all_goals
            go_returns
            rw [E.out]
            exact ⟨rfl, by (repeat' (first | (with_reducible exact Kp.refl _) | (with_reducible refine Kp.iter ?_ _ _)))⟩
      · have hn := fun ty => run_next_end (P := Try.prog) w s k ty hlt
        have E := Lib.hid (HK.out (by have := H.out; rwa [List.take_of_length_le (by simp; omega)] at this))
        go_wp2_with fail
        go_returns
        rw [E.out]
        exact ⟨rfl, by (repeat' (first | (with_reducible exact Kp.refl _) | (with_reducible refine Kp.iter ?_ _ _)))⟩
  · have e : keyErr s = 10 := by unfold keyErr; rw [if_neg (fun h => hz ⟨h.1, h.2.1⟩)]
    rw [e]
    have hz' : s.size < 1 ∨ 8 < s.size := by omega
    clear hz e
    rcases hz' with hz | hz
    all_goals
      go_enter Try.func52, Try.ntmps52
      go_wp2_with fail
      go_returns
      exact ⟨rfl, by (repeat' (first | (with_reducible exact Kp.refl _) | (with_reducible assumption) | (with_reducible refine Kp.alloc ?_ _) | (with_reducible refine Kp.ext ?_ _) | (with_reducible refine Kp.put ?_ _ _ _ ?_) | (with_reducible refine Kp.drew ?_) | (with_reducible refine Kp.drewN ?_ _) | (with_reducible refine Kp.setCell ?_ ?_ _) | (with_reducible refine Kp.trans ?_ (by assumption)) | (with_reducible exact Nat.le_refl _) | omega | (simp only [World.size_alloc, World.size_setCell, World.size_drew, size_drewN]; omega) | (simp; omega) | (simp; done)))⟩

theorem labelErr_0 : labelErr 0 = 0 := rfl
theorem labelErr_1 : labelErr 1 = 0 := rfl
theorem labelErr_no (n : Int) (h : n < 0 ∨ 2 ≤ n) : labelErr n = 11 := by unfold labelErr; rw [if_neg (by omega)]
theorem valueErr_ok (s : ByteArray) (h : 1 ≤ s.size) (h' : s.size ≤ 12) : valueErr s = 0 := by unfold valueErr; rw [if_pos ⟨h, h'⟩]
theorem valueErr_no (s : ByteArray) (h : s.size < 1 ∨ 12 < s.size) : valueErr s = 12 := by unfold valueErr; rw [if_neg (by omega)]
theorem text_Label (n : Int) (w : World) :
    Calls Try.prog 53 #[.int .i64 n] w fun e w' => e = .returned (.int .i64 (labelErr n)) ∧ Kp w w' := by
  have hn : n = 0 ∨ n = 1 ∨ n < 0 ∨ 2 ≤ n := by omega
  rcases hn with rfl | rfl | h | h
  · rw [labelErr_0]
    (go_enter Try.func53, Try.ntmps53; go_wp2_with fail; go_returns; exact ⟨rfl, by (repeat' (first | (with_reducible exact Kp.refl _) | (with_reducible assumption) | (with_reducible refine Kp.alloc ?_ _) | (with_reducible refine Kp.ext ?_ _) | (with_reducible refine Kp.put ?_ _ _ _ ?_) | (with_reducible refine Kp.drew ?_) | (with_reducible refine Kp.drewN ?_ _) | (with_reducible refine Kp.setCell ?_ ?_ _) | (with_reducible refine Kp.trans ?_ (by assumption)) | (with_reducible exact Nat.le_refl _) | omega | (simp only [World.size_alloc, World.size_setCell, World.size_drew, size_drewN]; omega) | (simp; omega) | (simp; done)))⟩)
  · rw [labelErr_1]
    (go_enter Try.func53, Try.ntmps53; go_wp2_with fail; go_returns; exact ⟨rfl, by (repeat' (first | (with_reducible exact Kp.refl _) | (with_reducible assumption) | (with_reducible refine Kp.alloc ?_ _) | (with_reducible refine Kp.ext ?_ _) | (with_reducible refine Kp.put ?_ _ _ _ ?_) | (with_reducible refine Kp.drew ?_) | (with_reducible refine Kp.drewN ?_ _) | (with_reducible refine Kp.setCell ?_ ?_ _) | (with_reducible refine Kp.trans ?_ (by assumption)) | (with_reducible exact Nat.le_refl _) | omega | (simp only [World.size_alloc, World.size_setCell, World.size_drew, size_drewN]; omega) | (simp; omega) | (simp; done)))⟩)
  · rw [labelErr_no n (.inl h)]
    have h1 : (n == 0) = false := by simp; omega
    have h2 : (n == 1) = false := by simp; omega
    (go_enter Try.func53, Try.ntmps53; go_wp2_with fail; go_returns; exact ⟨rfl, by (repeat' (first | (with_reducible exact Kp.refl _) | (with_reducible assumption) | (with_reducible refine Kp.alloc ?_ _) | (with_reducible refine Kp.ext ?_ _) | (with_reducible refine Kp.put ?_ _ _ _ ?_) | (with_reducible refine Kp.drew ?_) | (with_reducible refine Kp.drewN ?_ _) | (with_reducible refine Kp.setCell ?_ ?_ _) | (with_reducible refine Kp.trans ?_ (by assumption)) | (with_reducible exact Nat.le_refl _) | omega | (simp only [World.size_alloc, World.size_setCell, World.size_drew, size_drewN]; omega) | (simp; omega) | (simp; done)))⟩)
  · rw [labelErr_no n (.inr h)]
    have h1 : (n == 0) = false := by simp; omega
    have h2 : (n == 1) = false := by simp; omega
    (go_enter Try.func53, Try.ntmps53; go_wp2_with fail; go_returns; exact ⟨rfl, by (repeat' (first | (with_reducible exact Kp.refl _) | (with_reducible assumption) | (with_reducible refine Kp.alloc ?_ _) | (with_reducible refine Kp.ext ?_ _) | (with_reducible refine Kp.put ?_ _ _ _ ?_) | (with_reducible refine Kp.drew ?_) | (with_reducible refine Kp.drewN ?_ _) | (with_reducible refine Kp.setCell ?_ ?_ _) | (with_reducible refine Kp.trans ?_ (by assumption)) | (with_reducible exact Nat.le_refl _) | omega | (simp only [World.size_alloc, World.size_setCell, World.size_drew, size_drewN]; omega) | (simp; omega) | (simp; done)))⟩)
theorem text_Value (s : ByteArray) (w : World) (hs : s.size ≤ 9223372036854775807) :
    Calls Try.prog 54 #[.string s] w fun e w' => e = .returned (.int .i64 (valueErr s)) ∧ Kp w w' := by
  have hn : (1 ≤ s.size ∧ s.size ≤ 12) ∨ s.size < 1 ∨ 12 < s.size := by omega
  rcases hn with ⟨h1, h2⟩ | h | h
  · rw [valueErr_ok s h1 h2]
    (go_enter Try.func54, Try.ntmps54; go_wp2_with fail; go_returns; exact ⟨rfl, by (repeat' (first | (with_reducible exact Kp.refl _) | (with_reducible assumption) | (with_reducible refine Kp.alloc ?_ _) | (with_reducible refine Kp.ext ?_ _) | (with_reducible refine Kp.put ?_ _ _ _ ?_) | (with_reducible refine Kp.drew ?_) | (with_reducible refine Kp.drewN ?_ _) | (with_reducible refine Kp.setCell ?_ ?_ _) | (with_reducible refine Kp.trans ?_ (by assumption)) | (with_reducible exact Nat.le_refl _) | omega | (simp only [World.size_alloc, World.size_setCell, World.size_drew, size_drewN]; omega) | (simp; omega) | (simp; done)))⟩)
  · rw [valueErr_no s (.inl h)]
    (go_enter Try.func54, Try.ntmps54; go_wp2_with fail; go_returns; exact ⟨rfl, by (repeat' (first | (with_reducible exact Kp.refl _) | (with_reducible assumption) | (with_reducible refine Kp.alloc ?_ _) | (with_reducible refine Kp.ext ?_ _) | (with_reducible refine Kp.put ?_ _ _ _ ?_) | (with_reducible refine Kp.drew ?_) | (with_reducible refine Kp.drewN ?_ _) | (with_reducible refine Kp.setCell ?_ ?_ _) | (with_reducible refine Kp.trans ?_ (by assumption)) | (with_reducible exact Nat.le_refl _) | omega | (simp only [World.size_alloc, World.size_setCell, World.size_drew, size_drewN]; omega) | (simp; omega) | (simp; done)))⟩)
  · rw [valueErr_no s (.inr h)]
    (go_enter Try.func54, Try.ntmps54; go_wp2_with fail; go_returns; exact ⟨rfl, by (repeat' (first | (with_reducible exact Kp.refl _) | (with_reducible assumption) | (with_reducible refine Kp.alloc ?_ _) | (with_reducible refine Kp.ext ?_ _) | (with_reducible refine Kp.put ?_ _ _ _ ?_) | (with_reducible refine Kp.drew ?_) | (with_reducible refine Kp.drewN ?_ _) | (with_reducible refine Kp.setCell ?_ ?_ _) | (with_reducible refine Kp.trans ?_ (by assumption)) | (with_reducible exact Nat.le_refl _) | omega | (simp only [World.size_alloc, World.size_setCell, World.size_drew, size_drewN]; omega) | (simp; omega) | (simp; done)))⟩)
end Go.Proofs.Ytcclbplccnaonaa
