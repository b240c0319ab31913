/- Edits: package text's Edit and its reference, walked. No condition. -/
import Derived.Test.YtpamhedjdpfiaaaText
namespace Go.Proofs.Ytpamhedjdpfiaaa
open Go.RowKit
set_option linter.unusedSimpArgs false
set_option linter.unusedVariables false
structure Ed where
  kind : Int
  key : ByteArray
  label : Int
  value : ByteArray
@[reducible] def Ed.val (e : Ed) : Value := .agg #[.int .i64 e.kind, .string e.key, .int .i64 e.label, .string e.value]
/-- What the document says of an edit. -/
def editErr (e : Ed) : Int :=
  if e.kind < 1 ∨ 5 < e.kind then 1 else if keyErr e.key ≠ 0 then 10
  else if e.kind = 1 ∨ e.kind = 2 then (if e.label ≠ 0 then 11 else if e.value.size ≠ 0 then 12 else 0)
  else if labelErr e.label ≠ 0 then 11 else valueErr e.value
theorem keyErr_two (s : ByteArray) : keyErr s = 0 ∨ keyErr s = 10 := by unfold keyErr; split <;> simp
theorem labelErr_two (n : Int) : labelErr n = 0 ∨ labelErr n = 11 := by unfold labelErr; split <;> simp
theorem size_toList (s : ByteArray) : s.toList.length = s.size := by rw [ByteArray.toList_eq]; simp
theorem calls_as {P : Program} {f : FuncId} {args : Array Value} {w : World} {n m : Int} (h : n = m) (hc : Calls P f args w fun e w' => e = .returned (.int .i64 n) ∧ Kp w w') : Calls P f args w fun e w' => e = .returned (.int .i64 m) ∧ Kp w w' := by
  subst h; exact hc
set_option maxHeartbeats 1600000 in
theorem text_Edit (e : Ed) (w : World) (hk : e.key.size ≤ 9223372036854775807) (hv : e.value.size ≤ 9223372036854775807) :
    Calls Try.prog 30 #[e.val] w fun x w' => x = .returned (.int .i64 (editErr e)) ∧ Kp w w' := by
  obtain ⟨kind, key, label, value⟩ := e
  simp only [Ed.val] at *
  have hval : (value.size = 0) → value.toList = [] := fun h => List.eq_nil_of_length_eq_zero (by rw [size_toList, h])
  by_cases h1 : kind < 1 ∨ 5 < kind
  · have e : editErr ⟨kind, key, label, value⟩ = 1 := by unfold editErr; rw [if_pos h1]
    rw [e]
    clear e
    rcases h1 with h1 | h1
    all_goals (go_enter Try.func30, Try.ntmps30; go_wp2_with fail; go_returns; exact ⟨rfl, by (repeat' (first | (with_reducible exact Kp.refl _) | (with_reducible assumption) | (with_reducible refine Kp.alloc ?_ _) | (with_reducible refine Kp.ext ?_ _) | (with_reducible refine Kp.put ?_ _ _ _ ?_) | (with_reducible refine Kp.drew ?_) | (with_reducible refine Kp.drewN ?_ _) | (with_reducible refine Kp.setCell ?_ ?_ _) | (with_reducible refine Kp.trans ?_ (by assumption)) | (with_reducible exact Nat.le_refl _) | omega | (simp only [World.size_alloc, World.size_setCell, World.size_drew, size_drewN]; omega) | (simp; omega) | (simp; done)))⟩)
  · have h1' : 1 ≤ kind ∧ kind ≤ 5 := by omega
    obtain ⟨k1, k5⟩ := h1'
    rcases keyErr_two key with h2 | h2
    · have c2 := fun w => calls_as h2 (text_Key key w hk)
      by_cases h3 : kind = 1 ∨ kind = 2
      · by_cases h4 : label = 0
        · by_cases h5 : value.size = 0
          · have e : editErr ⟨kind, key, label, value⟩ = 0 := by unfold editErr; simp [h1, h2, h3, h4, h5]
            rw [e]
            have h6 := hval h5
            clear e h1 h2
            subst h4
            rcases h3 with rfl | rfl
            all_goals
              go_enter Try.func30, Try.ntmps30
              go_wp2_with fail
              (refine (calls_ext (c2 _)).mono ?_; rintro e w' ⟨rfl, x, rfl⟩; go_wp2_with fail)
              go_returns
              exact ⟨rfl, by (repeat' (first | (with_reducible exact Kp.refl _) | (with_reducible assumption) | (with_reducible refine Kp.alloc ?_ _) | (with_reducible refine Kp.ext ?_ _) | (with_reducible refine Kp.put ?_ _ _ _ ?_) | (with_reducible refine Kp.drew ?_) | (with_reducible refine Kp.drewN ?_ _) | (with_reducible refine Kp.setCell ?_ ?_ _) | (with_reducible refine Kp.trans ?_ (by assumption)) | (with_reducible exact Nat.le_refl _) | omega | (simp only [World.size_alloc, World.size_setCell, World.size_drew, size_drewN]; omega) | (simp; omega) | (simp; done)))⟩
          · have e : editErr ⟨kind, key, label, value⟩ = 12 := by unfold editErr; simp [h1, h2, h3, h4, h5]
            rw [e]
            have h6 : value.toList.isEmpty = false := by
              cases hh : value.toList with
              | nil => exact absurd (by rw [← size_toList, hh]; rfl) h5
              | cons a l => rfl
            have h7 : (value.toList == []) = false := by
              cases hh : value.toList with
              | nil => rw [hh] at h6; simp at h6
              | cons a l => rfl
            clear e h1 h2
            subst h4
            rcases h3 with rfl | rfl
            all_goals
              go_enter Try.func30, Try.ntmps30
              go_wp2_with fail
              (refine (calls_ext (c2 _)).mono ?_; rintro e w' ⟨rfl, x, rfl⟩; go_wp2_with fail)
              go_returns
              exact ⟨rfl, by (repeat' (first | (with_reducible exact Kp.refl _) | (with_reducible assumption) | (with_reducible refine Kp.alloc ?_ _) | (with_reducible refine Kp.ext ?_ _) | (with_reducible refine Kp.put ?_ _ _ _ ?_) | (with_reducible refine Kp.drew ?_) | (with_reducible refine Kp.drewN ?_ _) | (with_reducible refine Kp.setCell ?_ ?_ _) | (with_reducible refine Kp.trans ?_ (by assumption)) | (with_reducible exact Nat.le_refl _) | omega | (simp only [World.size_alloc, World.size_setCell, World.size_drew, size_drewN]; omega) | (simp; omega) | (simp; done)))⟩
        · have e : editErr ⟨kind, key, label, value⟩ = 11 := by unfold editErr; simp [h1, h2, h3, h4]
          rw [e]
          have h6 : (label == 0) = false := by simpa using h4
          clear e h1 h2 h4
          rcases h3 with rfl | rfl
          all_goals
            go_enter Try.func30, Try.ntmps30
            go_wp2_with fail
            (refine (calls_ext (c2 _)).mono ?_; rintro e w' ⟨rfl, x, rfl⟩; go_wp2_with fail)
            go_returns
            exact ⟨rfl, by (repeat' (first | (with_reducible exact Kp.refl _) | (with_reducible assumption) | (with_reducible refine Kp.alloc ?_ _) | (with_reducible refine Kp.ext ?_ _) | (with_reducible refine Kp.put ?_ _ _ _ ?_) | (with_reducible refine Kp.drew ?_) | (with_reducible refine Kp.drewN ?_ _) | (with_reducible refine Kp.setCell ?_ ?_ _) | (with_reducible refine Kp.trans ?_ (by assumption)) | (with_reducible exact Nat.le_refl _) | omega | (simp only [World.size_alloc, World.size_setCell, World.size_drew, size_drewN]; omega) | (simp; omega) | (simp; done)))⟩
      · have h8 : (kind == 1) = false := by simp; omega
        have h9 : (kind == 2) = false := by simp; omega
        rcases labelErr_two label with h4 | h4
        · have e : editErr ⟨kind, key, label, value⟩ = valueErr value := by unfold editErr; simp [h1, h2, h3, h4]
          rw [e]
          have c4 := fun w => calls_as h4 (text_Label label w)
          clear e h1 h2 h3 h4
          go_enter Try.func30, Try.ntmps30
          go_wp2_with fail
          (refine (calls_ext (c2 _)).mono ?_; rintro e w' ⟨rfl, x, rfl⟩; go_wp2_with fail)
          (refine (calls_ext (c4 _)).mono ?_; rintro e w' ⟨rfl, x, rfl⟩; go_wp2_with fail)
          (refine (calls_ext (text_Value value _ hv)).mono ?_; rintro e w' ⟨rfl, x, rfl⟩; go_wp2_with fail)
          go_returns
          exact ⟨rfl, by (repeat' (first | (with_reducible exact Kp.refl _) | (with_reducible assumption) | (with_reducible refine Kp.alloc ?_ _) | (with_reducible refine Kp.ext ?_ _) | (with_reducible refine Kp.put ?_ _ _ _ ?_) | (with_reducible refine Kp.drew ?_) | (with_reducible refine Kp.drewN ?_ _) | (with_reducible refine Kp.setCell ?_ ?_ _) | (with_reducible refine Kp.trans ?_ (by assumption)) | (with_reducible exact Nat.le_refl _) | omega | (simp only [World.size_alloc, World.size_setCell, World.size_drew, size_drewN]; omega) | (simp; omega) | (simp; done)))⟩
        · have e : editErr ⟨kind, key, label, value⟩ = 11 := by unfold editErr; simp [h1, h2, h3, h4]
          rw [e]
          have c4 := fun w => calls_as h4 (text_Label label w)
          clear e h1 h2 h3 h4
          go_enter Try.func30, Try.ntmps30
          go_wp2_with fail
          (refine (calls_ext (c2 _)).mono ?_; rintro e w' ⟨rfl, x, rfl⟩; go_wp2_with fail)
          (refine (calls_ext (c4 _)).mono ?_; rintro e w' ⟨rfl, x, rfl⟩; go_wp2_with fail)
          go_returns
          exact ⟨rfl, by (repeat' (first | (with_reducible exact Kp.refl _) | (with_reducible assumption) | (with_reducible refine Kp.alloc ?_ _) | (with_reducible refine Kp.ext ?_ _) | (with_reducible refine Kp.put ?_ _ _ _ ?_) | (with_reducible refine Kp.drew ?_) | (with_reducible refine Kp.drewN ?_ _) | (with_reducible refine Kp.setCell ?_ ?_ _) | (with_reducible refine Kp.trans ?_ (by assumption)) | (with_reducible exact Nat.le_refl _) | omega | (simp only [World.size_alloc, World.size_setCell, World.size_drew, size_drewN]; omega) | (simp; omega) | (simp; done)))⟩
    · have e : editErr ⟨kind, key, label, value⟩ = 10 := by unfold editErr; simp [h1, h2]
      rw [e]
      have c2 := fun w => calls_as h2 (text_Key key w hk)
      clear e h1 h2
      go_enter Try.func30, Try.ntmps30
      go_wp2_with fail
      (refine (calls_ext (c2 _)).mono ?_; rintro e w' ⟨rfl, x, rfl⟩; go_wp2_with fail)
      go_returns
      exact ⟨rfl, by (repeat' (first | (with_reducible exact Kp.refl _) | (with_reducible assumption) | (with_reducible refine Kp.alloc ?_ _) | (with_reducible refine Kp.ext ?_ _) | (with_reducible refine Kp.put ?_ _ _ _ ?_) | (with_reducible refine Kp.drew ?_) | (with_reducible refine Kp.drewN ?_ _) | (with_reducible refine Kp.setCell ?_ ?_ _) | (with_reducible refine Kp.trans ?_ (by assumption)) | (with_reducible exact Nat.le_refl _) | omega | (simp only [World.size_alloc, World.size_setCell, World.size_drew, size_drewN]; omega) | (simp; omega) | (simp; done)))⟩
set_option maxHeartbeats 1600000 in
theorem ref5_Edit (e : Ed) (w : World) (hk : e.key.size ≤ 9223372036854775807) (hv : e.value.size ≤ 9223372036854775807) :
    Calls Try.prog 31 #[e.val] w fun x w' => x = .returned (.int .i64 (editErr e)) ∧ Kp w w' := by
  obtain ⟨kind, key, label, value⟩ := e
  simp only [Ed.val] at *
  have hval : (value.size = 0) → value.toList = [] := fun h => List.eq_nil_of_length_eq_zero (by rw [size_toList, h])
  by_cases h1 : kind < 1 ∨ 5 < kind
  · have e : editErr ⟨kind, key, label, value⟩ = 1 := by unfold editErr; rw [if_pos h1]
    rw [e]
    clear e
    rcases h1 with h1 | h1
    all_goals (go_enter Try.func31, Try.ntmps31; go_wp2_with fail; go_returns; exact ⟨rfl, by (repeat' (first | (with_reducible exact Kp.refl _) | (with_reducible assumption) | (with_reducible refine Kp.alloc ?_ _) | (with_reducible refine Kp.ext ?_ _) | (with_reducible refine Kp.put ?_ _ _ _ ?_) | (with_reducible refine Kp.drew ?_) | (with_reducible refine Kp.drewN ?_ _) | (with_reducible refine Kp.setCell ?_ ?_ _) | (with_reducible refine Kp.trans ?_ (by assumption)) | (with_reducible exact Nat.le_refl _) | omega | (simp only [World.size_alloc, World.size_setCell, World.size_drew, size_drewN]; omega) | (simp; omega) | (simp; done)))⟩)
  · have h1' : 1 ≤ kind ∧ kind ≤ 5 := by omega
    obtain ⟨k1, k5⟩ := h1'
    rcases keyErr_two key with h2 | h2
    · have c2 := fun w => calls_as h2 (ref5_Key key w hk)
      by_cases h3 : kind = 1 ∨ kind = 2
      · by_cases h4 : label = 0
        · by_cases h5 : value.size = 0
          · have e : editErr ⟨kind, key, label, value⟩ = 0 := by unfold editErr; simp [h1, h2, h3, h4, h5]
            rw [e]
            have h6 := hval h5
            clear e h1 h2
            subst h4
            rcases h3 with rfl | rfl
            all_goals
              go_enter Try.func31, Try.ntmps31
              go_wp2_with fail
              (refine (calls_ext (c2 _)).mono ?_; rintro e w' ⟨rfl, x, rfl⟩; go_wp2_with fail)
              go_returns
              exact ⟨rfl, by (repeat' (first | (with_reducible exact Kp.refl _) | (with_reducible assumption) | (with_reducible refine Kp.alloc ?_ _) | (with_reducible refine Kp.ext ?_ _) | (with_reducible refine Kp.put ?_ _ _ _ ?_) | (with_reducible refine Kp.drew ?_) | (with_reducible refine Kp.drewN ?_ _) | (with_reducible refine Kp.setCell ?_ ?_ _) | (with_reducible refine Kp.trans ?_ (by assumption)) | (with_reducible exact Nat.le_refl _) | omega | (simp only [World.size_alloc, World.size_setCell, World.size_drew, size_drewN]; omega) | (simp; omega) | (simp; done)))⟩
          · have e : editErr ⟨kind, key, label, value⟩ = 12 := by unfold editErr; simp [h1, h2, h3, h4, h5]
            rw [e]
            have h6 : value.toList.isEmpty = false := by
              cases hh : value.toList with
              | nil => exact absurd (by rw [← size_toList, hh]; rfl) h5
              | cons a l => rfl
            have h7 : (value.toList == []) = false := by
              cases hh : value.toList with
              | nil => rw [hh] at h6; simp at h6
              | cons a l => rfl
            clear e h1 h2
            subst h4
            rcases h3 with rfl | rfl
            all_goals
              go_enter Try.func31, Try.ntmps31
              go_wp2_with fail
              (refine (calls_ext (c2 _)).mono ?_; rintro e w' ⟨rfl, x, rfl⟩; go_wp2_with fail)
              go_returns
              exact ⟨rfl, by (repeat' (first | (with_reducible exact Kp.refl _) | (with_reducible assumption) | (with_reducible refine Kp.alloc ?_ _) | (with_reducible refine Kp.ext ?_ _) | (with_reducible refine Kp.put ?_ _ _ _ ?_) | (with_reducible refine Kp.drew ?_) | (with_reducible refine Kp.drewN ?_ _) | (with_reducible refine Kp.setCell ?_ ?_ _) | (with_reducible refine Kp.trans ?_ (by assumption)) | (with_reducible exact Nat.le_refl _) | omega | (simp only [World.size_alloc, World.size_setCell, World.size_drew, size_drewN]; omega) | (simp; omega) | (simp; done)))⟩
        · have e : editErr ⟨kind, key, label, value⟩ = 11 := by unfold editErr; simp [h1, h2, h3, h4]
          rw [e]
          have h6 : (label == 0) = false := by simpa using h4
          clear e h1 h2 h4
          rcases h3 with rfl | rfl
          all_goals
            go_enter Try.func31, Try.ntmps31
            go_wp2_with fail
            (refine (calls_ext (c2 _)).mono ?_; rintro e w' ⟨rfl, x, rfl⟩; go_wp2_with fail)
            go_returns
            exact ⟨rfl, by (repeat' (first | (with_reducible exact Kp.refl _) | (with_reducible assumption) | (with_reducible refine Kp.alloc ?_ _) | (with_reducible refine Kp.ext ?_ _) | (with_reducible refine Kp.put ?_ _ _ _ ?_) | (with_reducible refine Kp.drew ?_) | (with_reducible refine Kp.drewN ?_ _) | (with_reducible refine Kp.setCell ?_ ?_ _) | (with_reducible refine Kp.trans ?_ (by assumption)) | (with_reducible exact Nat.le_refl _) | omega | (simp only [World.size_alloc, World.size_setCell, World.size_drew, size_drewN]; omega) | (simp; omega) | (simp; done)))⟩
      · have h8 : (kind == 1) = false := by simp; omega
        have h9 : (kind == 2) = false := by simp; omega
        rcases labelErr_two label with h4 | h4
        · have e : editErr ⟨kind, key, label, value⟩ = valueErr value := by unfold editErr; simp [h1, h2, h3, h4]
          rw [e]
          have c4 := fun w => calls_as h4 (ref5_Label label w)
          clear e h1 h2 h3 h4
          go_enter Try.func31, Try.ntmps31
          go_wp2_with fail
          (refine (calls_ext (c2 _)).mono ?_; rintro e w' ⟨rfl, x, rfl⟩; go_wp2_with fail)
          (refine (calls_ext (c4 _)).mono ?_; rintro e w' ⟨rfl, x, rfl⟩; go_wp2_with fail)
          (refine (calls_ext (ref5_Value value _ hv)).mono ?_; rintro e w' ⟨rfl, x, rfl⟩; go_wp2_with fail)
          go_returns
          exact ⟨rfl, by (repeat' (first | (with_reducible exact Kp.refl _) | (with_reducible assumption) | (with_reducible refine Kp.alloc ?_ _) | (with_reducible refine Kp.ext ?_ _) | (with_reducible refine Kp.put ?_ _ _ _ ?_) | (with_reducible refine Kp.drew ?_) | (with_reducible refine Kp.drewN ?_ _) | (with_reducible refine Kp.setCell ?_ ?_ _) | (with_reducible refine Kp.trans ?_ (by assumption)) | (with_reducible exact Nat.le_refl _) | omega | (simp only [World.size_alloc, World.size_setCell, World.size_drew, size_drewN]; omega) | (simp; omega) | (simp; done)))⟩
        · have e : editErr ⟨kind, key, label, value⟩ = 11 := by unfold editErr; simp [h1, h2, h3, h4]
          rw [e]
          have c4 := fun w => calls_as h4 (ref5_Label label w)
          clear e h1 h2 h3 h4
          go_enter Try.func31, Try.ntmps31
          go_wp2_with fail
          (refine (calls_ext (c2 _)).mono ?_; rintro e w' ⟨rfl, x, rfl⟩; go_wp2_with fail)
          (refine (calls_ext (c4 _)).mono ?_; rintro e w' ⟨rfl, x, rfl⟩; go_wp2_with fail)
          go_returns
          exact ⟨rfl, by (repeat' (first | (with_reducible exact Kp.refl _) | (with_reducible assumption) | (with_reducible refine Kp.alloc ?_ _) | (with_reducible refine Kp.ext ?_ _) | (with_reducible refine Kp.put ?_ _ _ _ ?_) | (with_reducible refine Kp.drew ?_) | (with_reducible refine Kp.drewN ?_ _) | (with_reducible refine Kp.setCell ?_ ?_ _) | (with_reducible refine Kp.trans ?_ (by assumption)) | (with_reducible exact Nat.le_refl _) | omega | (simp only [World.size_alloc, World.size_setCell, World.size_drew, size_drewN]; omega) | (simp; omega) | (simp; done)))⟩
    · have e : editErr ⟨kind, key, label, value⟩ = 10 := by unfold editErr; simp [h1, h2]
      rw [e]
      have c2 := fun w => calls_as h2 (ref5_Key key w hk)
      clear e h1 h2
      go_enter Try.func31, Try.ntmps31
      go_wp2_with fail
      (refine (calls_ext (c2 _)).mono ?_; rintro e w' ⟨rfl, x, rfl⟩; go_wp2_with fail)
      go_returns
      exact ⟨rfl, by (repeat' (first | (with_reducible exact Kp.refl _) | (with_reducible assumption) | (with_reducible refine Kp.alloc ?_ _) | (with_reducible refine Kp.ext ?_ _) | (with_reducible refine Kp.put ?_ _ _ _ ?_) | (with_reducible refine Kp.drew ?_) | (with_reducible refine Kp.drewN ?_ _) | (with_reducible refine Kp.setCell ?_ ?_ _) | (with_reducible refine Kp.trans ?_ (by assumption)) | (with_reducible exact Nat.le_refl _) | omega | (simp only [World.size_alloc, World.size_setCell, World.size_drew, size_drewN]; omega) | (simp; omega) | (simp; done)))⟩
end Go.Proofs.Ytpamhedjdpfiaaa
