/- The laws of layer 5, walked. The condition: no text is longer than memory. -/
import Derived.Test.YtpamhedjdpfiaaaText3
namespace Go.Proofs.Ytpamhedjdpfiaaa
open Go.RowKit
set_option linter.unusedSimpArgs false
set_option linter.unusedVariables false
theorem key_ann (w : World) : Calls Try.prog 19 #[.string ⟨#[97, 110, 110]⟩] w fun e w' => e = .returned (.int .i64 0) ∧ Kp w w' := calls_as rfl (text_Key ⟨#[97, 110, 110]⟩ w (by decide))
theorem key_Ann (w : World) : Calls Try.prog 19 #[.string ⟨#[65, 110, 110]⟩] w fun e w' => e = .returned (.int .i64 10) ∧ Kp w w' := calls_as rfl (text_Key ⟨#[65, 110, 110]⟩ w (by decide))
theorem value_none (w : World) : Calls Try.prog 20 #[.string ⟨#[]⟩] w fun e w' => e = .returned (.int .i64 12) ∧ Kp w w' := calls_as rfl (text_Value ⟨#[]⟩ w (by decide))
set_option maxHeartbeats 400000 in
theorem shown5 (w : World) : Calls Try.prog 18 #[] w (Yes w) := by
  go_enter Try.func18, Try.ntmps18
  go_wp2_with fail
  (refine (calls_ext (key_ann _)).mono ?_; rintro e w' ⟨rfl, x, rfl⟩; go_wp2_with fail)
  (refine (calls_ext (key_Ann _)).mono ?_; rintro e w' ⟨rfl, x, rfl⟩; go_wp2_with fail)
  (refine (calls_ext (value_none _)).mono ?_; rintro e w' ⟨rfl, x, rfl⟩; go_wp2_with fail)
  go_returns
  exact ⟨rfl, by (repeat' (first | (with_reducible exact Kp.refl _) | (with_reducible assumption) | (with_reducible refine Kp.alloc ?_ _) | (with_reducible refine Kp.ext ?_ _) | (with_reducible refine Kp.put ?_ _ _ _ ?_) | (with_reducible refine Kp.drew ?_) | (with_reducible refine Kp.drewN ?_ _) | (with_reducible refine Kp.setCell ?_ ?_ _) | (with_reducible refine Kp.trans ?_ (by assumption)) | (with_reducible exact Nat.le_refl _) | omega | (simp only [World.size_alloc, World.size_setCell, World.size_drew, size_drewN]; omega) | (simp; omega) | (simp; done)))⟩
set_option maxHeartbeats 800000 in
theorem textAll_walk (e : Ed) (hk : e.key.size ≤ 140737488351232) (hv : e.value.size ≤ 140737488351232) (w : World) : Calls Try.prog 11 #[e.val] w (Yes w) := by
  have hk' : e.key.size ≤ 9223372036854775807 := by omega
  have hv' : e.value.size ≤ 9223372036854775807 := by omega
  go_enter Try.func11, Try.ntmps11
  go_wp2_with fail
  (refine (calls_ext (shown5 _)).mono ?_; rintro e w' ⟨rfl, x, rfl⟩; go_wp2_with fail)
  refine wp_region_ext (by kernel_rfl) (by kernel_rfl) ?_; (repeat go_big_quiet_step (fail))
  (go_big_quiet_step (exact calls_ext2 (text_Key e.key _ hk')); (repeat go_big_quiet_step (fail)))
  (go_big_quiet_step (exact calls_ext2 (ref5_Key e.key _ hk')); (repeat go_big_quiet_step (fail)))
  (go_big_quiet_step (exact calls_ext2 (text_Label e.label _)); (repeat go_big_quiet_step (fail)))
  (go_big_quiet_step (exact calls_ext2 (ref5_Label e.label _)); (repeat go_big_quiet_step (fail)))
  (go_big_quiet_step (exact calls_ext2 (text_Value e.value _ hv')); (repeat go_big_quiet_step (fail)))
  (go_big_quiet_step (exact calls_ext2 (ref5_Value e.value _ hv')); (repeat go_big_quiet_step (fail)))
  (go_big_quiet_step (exact calls_ext2 (text_Edit e _ hk' hv')); (repeat go_big_quiet_step (fail)))
  (go_big_quiet_step (exact calls_ext2 (ref5_Edit e _ hk' hv')); (repeat go_big_quiet_step (fail)))
  (refine wpQuiet_nil ?_; rintro w' ⟨x, rfl⟩; go_wp2_with fail; go_returns; exact ⟨rfl, by (repeat' (first | (with_reducible exact Kp.refl _) | (with_reducible assumption) | (with_reducible refine Kp.alloc ?_ _) | (with_reducible refine Kp.ext ?_ _) | (with_reducible refine Kp.put ?_ _ _ _ ?_) | (with_reducible refine Kp.drew ?_) | (with_reducible refine Kp.drewN ?_ _) | (with_reducible refine Kp.setCell ?_ ?_ _) | (with_reducible refine Kp.trans ?_ (by assumption)) | (with_reducible exact Nat.le_refl _) | omega | (simp only [World.size_alloc, World.size_setCell, World.size_drew, size_drewN]; omega) | (simp; omega) | (simp; done)))⟩)
theorem edit_is (e : Ed) (n : Int) (h : editErr e = n) (hk : e.key.size ≤ 9223372036854775807) (hv : e.value.size ≤ 9223372036854775807) (w : World) :
    Calls Try.prog 30 #[e.val] w fun x w' => x = .returned (.int .i64 n) ∧ Kp w w' := by
  subst h; exact text_Edit e w hk hv
theorem Ed.Fits.ok {y : Ed} (h : y.Fits) : editErr y = 0 := by
  have h1 := h.k1
  have h2 := h.k5
  have h3 := h.key
  unfold editErr
  rw [if_neg (by omega), if_neg (by rw [h3]; simp)]
  by_cases k : y.kind ≤ 2
  · obtain ⟨a, b⟩ := h.bare k
    rw [if_pos (by omega), if_neg (by rw [a]; simp), if_neg (by rw [b]; decide)]
  · obtain ⟨a, b, c⟩ := h.full (by omega)
    have e : labelErr y.label = 0 := by rcases a with a | a <;> rw [a] <;> rfl
    rw [if_neg (by omega), if_neg (by rw [e]; simp)]
    exact valueErr_ok _ b c
theorem editErr_long (e : Ed) (h : 3 ≤ e.kind) (h5 : e.kind ≤ 5) (hk : keyErr e.key = 0) : editErr e = if labelErr e.label ≠ 0 then 11 else valueErr e.value := by
  unfold editErr
  rw [if_neg (by omega), if_neg (by rw [hk]; simp), if_neg (by omega)]
set_option maxHeartbeats 8000000 in
theorem textMade_walk (e : Ed) (hk : e.key.size ≤ 140737488351232) (hv : e.value.size ≤ 140737488351232) (label : Int) (value : ByteArray) (hval : value.size ≤ 9223372036854775807) (w : World) :
    Calls Try.prog 13 #[e.val, .int .i64 label, .string value] w (Yes w) := by
  have hvl : (value.size = 0) → value.toList = [] := fun h => List.eq_nil_of_length_eq_zero (by rw [size_toList, h])
  have hvn : value.size ≠ 0 → value.toList.isEmpty = false ∧ (value.toList == []) = false := fun h => by
    cases hh : value.toList with
    | nil => exact absurd (by rw [← size_toList, hh]; rfl) h
    | cons a l => exact ⟨rfl, rfl⟩
  have key : ∀ (y : Ed), y.Fits → ∀ (w0 : World) (K : Act → World → Prop), True := fun _ _ _ _ => trivial
  clear key
  go_enter Try.func13, Try.ntmps13
  go_wp2_with fail
  (refine (calls_ext (shown5 _)).mono ?_; rintro e w' ⟨rfl, x, rfl⟩; go_wp2_with fail)
  refine (ref5_Fit e _ hk hv).mono ?_
  rintro e w' ⟨y, hy, rfl, hkp⟩
  obtain ⟨x, rfl⟩ := Kp.later hkp
  clear hkp
  have k1 := hy.k1
  have k5 := hy.k5
  have hok := hy.ok
  have hk8 : y.key.size ≤ 9223372036854775807 := Nat.le_trans hy.key8 (by decide)
  have hv8 : y.value.size ≤ 9223372036854775807 := Nat.le_trans hy.value12 (by decide)
  have hkey := hy.key
  clear hy
  obtain ⟨K, kk, ly, vy⟩ := y
  simp only [Ed.val] at *
  have HY := Lib.hid hok
  have HKEY := Lib.hid hkey
  clear hok hkey
  have hK : K = 1 ∨ K = 2 ∨ (3 ≤ K ∧ (K == 1) = false ∧ (K == 2) = false) := by
    rcases (show K = 1 ∨ K = 2 ∨ 3 ≤ K by omega) with h | h | h
    · exact .inl h
    · exact .inr (.inl h)
    · exact .inr (.inr ⟨h, by simp; omega, by simp; omega⟩)
  have hL : label = 0 ∨ label = 1 ∨ ((label == 0) = false ∧ (label == 1) = false ∧ (label < 0 ∨ 2 ≤ label)) := by
    rcases (show label = 0 ∨ label = 1 ∨ (label < 0 ∨ 2 ≤ label) by omega) with h | h | h
    · exact .inl h
    · exact .inr (.inl h)
    · exact .inr (.inr ⟨by simp; omega, by simp; omega, h⟩)
  have hS : value.size = 0 ∨ (1 ≤ value.size ∧ value.size ≤ 12) ∨ 12 < value.size := by omega
  rcases hK with rfl | rfl | ⟨hK, hK1, hK2⟩
  · rcases hL with rfl | rfl | ⟨l0, l1, hL⟩
    · rcases hS with hS | ⟨s1, s2⟩ | hS
      · have E : editErr ⟨1, kk, 0, value⟩ = 0 := by unfold editErr; simp [HKEY.out, hS]
        have hv1 := hvl hS
        clear hvl hvn
        (have HE := Lib.hid E; clear E; go_wp2_with fail; (refine (calls_ext (edit_is _ 0 HY.out hk8 hv8 _)).mono ?_; rintro e w' ⟨rfl, x, rfl⟩; go_wp2_with fail); (refine (calls_ext (edit_is _ 0 HE.out hk8 hval _)).mono ?_; rintro e w' ⟨rfl, x, rfl⟩; go_wp2_with fail); go_returns; refine ⟨?_, by (repeat' (first | (with_reducible exact Kp.refl _) | (with_reducible assumption) | (with_reducible refine Kp.alloc ?_ _) | (with_reducible refine Kp.ext ?_ _) | (with_reducible refine Kp.put ?_ _ _ _ ?_) | (with_reducible refine Kp.drew ?_) | (with_reducible refine Kp.drewN ?_ _) | (with_reducible refine Kp.setCell ?_ ?_ _) | (with_reducible refine Kp.trans ?_ (by assumption)) | (with_reducible exact Nat.le_refl _) | omega | (simp only [World.size_alloc, World.size_setCell, World.size_drew, size_drewN]; omega) | (simp; omega) | (simp; done)))⟩; first | rfl | (simp; done) | (simp; omega))
      all_goals
        have E : editErr ⟨1, kk, 0, value⟩ = 12 := by
          have hne : value.size ≠ 0 := by omega
          unfold editErr; simp [HKEY.out, hne]
        obtain ⟨hv1, hv2⟩ := hvn (by omega)
        clear hvl hvn
        (have HE := Lib.hid E; clear E; go_wp2_with fail; (refine (calls_ext (edit_is _ 0 HY.out hk8 hv8 _)).mono ?_; rintro e w' ⟨rfl, x, rfl⟩; go_wp2_with fail); (refine (calls_ext (edit_is _ 12 HE.out hk8 hval _)).mono ?_; rintro e w' ⟨rfl, x, rfl⟩; go_wp2_with fail); go_returns; refine ⟨?_, by (repeat' (first | (with_reducible exact Kp.refl _) | (with_reducible assumption) | (with_reducible refine Kp.alloc ?_ _) | (with_reducible refine Kp.ext ?_ _) | (with_reducible refine Kp.put ?_ _ _ _ ?_) | (with_reducible refine Kp.drew ?_) | (with_reducible refine Kp.drewN ?_ _) | (with_reducible refine Kp.setCell ?_ ?_ _) | (with_reducible refine Kp.trans ?_ (by assumption)) | (with_reducible exact Nat.le_refl _) | omega | (simp only [World.size_alloc, World.size_setCell, World.size_drew, size_drewN]; omega) | (simp; omega) | (simp; done)))⟩; first | rfl | (simp; done) | (simp; omega))
    · have E : editErr ⟨1, kk, 1, value⟩ = 11 := by unfold editErr; simp [HKEY.out]
      clear hvl hvn hS
      (have HE := Lib.hid E; clear E; go_wp2_with fail; (refine (calls_ext (edit_is _ 0 HY.out hk8 hv8 _)).mono ?_; rintro e w' ⟨rfl, x, rfl⟩; go_wp2_with fail); (refine (calls_ext (edit_is _ 11 HE.out hk8 hval _)).mono ?_; rintro e w' ⟨rfl, x, rfl⟩; go_wp2_with fail); go_returns; refine ⟨?_, by (repeat' (first | (with_reducible exact Kp.refl _) | (with_reducible assumption) | (with_reducible refine Kp.alloc ?_ _) | (with_reducible refine Kp.ext ?_ _) | (with_reducible refine Kp.put ?_ _ _ _ ?_) | (with_reducible refine Kp.drew ?_) | (with_reducible refine Kp.drewN ?_ _) | (with_reducible refine Kp.setCell ?_ ?_ _) | (with_reducible refine Kp.trans ?_ (by assumption)) | (with_reducible exact Nat.le_refl _) | omega | (simp only [World.size_alloc, World.size_setCell, World.size_drew, size_drewN]; omega) | (simp; omega) | (simp; done)))⟩; first | rfl | (simp; done) | (simp; omega))
    · have E : editErr ⟨1, kk, label, value⟩ = 11 := by unfold editErr; simp [HKEY.out]; omega
      clear hvl hvn hS
      (have HE := Lib.hid E; clear E; go_wp2_with fail; (refine (calls_ext (edit_is _ 0 HY.out hk8 hv8 _)).mono ?_; rintro e w' ⟨rfl, x, rfl⟩; go_wp2_with fail); (refine (calls_ext (edit_is _ 11 HE.out hk8 hval _)).mono ?_; rintro e w' ⟨rfl, x, rfl⟩; go_wp2_with fail); go_returns; refine ⟨?_, by (repeat' (first | (with_reducible exact Kp.refl _) | (with_reducible assumption) | (with_reducible refine Kp.alloc ?_ _) | (with_reducible refine Kp.ext ?_ _) | (with_reducible refine Kp.put ?_ _ _ _ ?_) | (with_reducible refine Kp.drew ?_) | (with_reducible refine Kp.drewN ?_ _) | (with_reducible refine Kp.setCell ?_ ?_ _) | (with_reducible refine Kp.trans ?_ (by assumption)) | (with_reducible exact Nat.le_refl _) | omega | (simp only [World.size_alloc, World.size_setCell, World.size_drew, size_drewN]; omega) | (simp; omega) | (simp; done)))⟩; first | rfl | (simp; done) | (simp; omega))
  · rcases hL with rfl | rfl | ⟨l0, l1, hL⟩
    · rcases hS with hS | ⟨s1, s2⟩ | hS
      · have E : editErr ⟨2, kk, 0, value⟩ = 0 := by unfold editErr; simp [HKEY.out, hS]
        have hv1 := hvl hS
        clear hvl hvn
        (have HE := Lib.hid E; clear E; go_wp2_with fail; (refine (calls_ext (edit_is _ 0 HY.out hk8 hv8 _)).mono ?_; rintro e w' ⟨rfl, x, rfl⟩; go_wp2_with fail); (refine (calls_ext (edit_is _ 0 HE.out hk8 hval _)).mono ?_; rintro e w' ⟨rfl, x, rfl⟩; go_wp2_with fail); go_returns; refine ⟨?_, by (repeat' (first | (with_reducible exact Kp.refl _) | (with_reducible assumption) | (with_reducible refine Kp.alloc ?_ _) | (with_reducible refine Kp.ext ?_ _) | (with_reducible refine Kp.put ?_ _ _ _ ?_) | (with_reducible refine Kp.drew ?_) | (with_reducible refine Kp.drewN ?_ _) | (with_reducible refine Kp.setCell ?_ ?_ _) | (with_reducible refine Kp.trans ?_ (by assumption)) | (with_reducible exact Nat.le_refl _) | omega | (simp only [World.size_alloc, World.size_setCell, World.size_drew, size_drewN]; omega) | (simp; omega) | (simp; done)))⟩; first | rfl | (simp; done) | (simp; omega))
      all_goals
        have E : editErr ⟨2, kk, 0, value⟩ = 12 := by
          have hne : value.size ≠ 0 := by omega
          unfold editErr; simp [HKEY.out, hne]
        obtain ⟨hv1, hv2⟩ := hvn (by omega)
        clear hvl hvn
        (have HE := Lib.hid E; clear E; go_wp2_with fail; (refine (calls_ext (edit_is _ 0 HY.out hk8 hv8 _)).mono ?_; rintro e w' ⟨rfl, x, rfl⟩; go_wp2_with fail); (refine (calls_ext (edit_is _ 12 HE.out hk8 hval _)).mono ?_; rintro e w' ⟨rfl, x, rfl⟩; go_wp2_with fail); go_returns; refine ⟨?_, by (repeat' (first | (with_reducible exact Kp.refl _) | (with_reducible assumption) | (with_reducible refine Kp.alloc ?_ _) | (with_reducible refine Kp.ext ?_ _) | (with_reducible refine Kp.put ?_ _ _ _ ?_) | (with_reducible refine Kp.drew ?_) | (with_reducible refine Kp.drewN ?_ _) | (with_reducible refine Kp.setCell ?_ ?_ _) | (with_reducible refine Kp.trans ?_ (by assumption)) | (with_reducible exact Nat.le_refl _) | omega | (simp only [World.size_alloc, World.size_setCell, World.size_drew, size_drewN]; omega) | (simp; omega) | (simp; done)))⟩; first | rfl | (simp; done) | (simp; omega))
    · have E : editErr ⟨2, kk, 1, value⟩ = 11 := by unfold editErr; simp [HKEY.out]
      clear hvl hvn hS
      (have HE := Lib.hid E; clear E; go_wp2_with fail; (refine (calls_ext (edit_is _ 0 HY.out hk8 hv8 _)).mono ?_; rintro e w' ⟨rfl, x, rfl⟩; go_wp2_with fail); (refine (calls_ext (edit_is _ 11 HE.out hk8 hval _)).mono ?_; rintro e w' ⟨rfl, x, rfl⟩; go_wp2_with fail); go_returns; refine ⟨?_, by (repeat' (first | (with_reducible exact Kp.refl _) | (with_reducible assumption) | (with_reducible refine Kp.alloc ?_ _) | (with_reducible refine Kp.ext ?_ _) | (with_reducible refine Kp.put ?_ _ _ _ ?_) | (with_reducible refine Kp.drew ?_) | (with_reducible refine Kp.drewN ?_ _) | (with_reducible refine Kp.setCell ?_ ?_ _) | (with_reducible refine Kp.trans ?_ (by assumption)) | (with_reducible exact Nat.le_refl _) | omega | (simp only [World.size_alloc, World.size_setCell, World.size_drew, size_drewN]; omega) | (simp; omega) | (simp; done)))⟩; first | rfl | (simp; done) | (simp; omega))
    · have E : editErr ⟨2, kk, label, value⟩ = 11 := by unfold editErr; simp [HKEY.out]; omega
      clear hvl hvn hS
      (have HE := Lib.hid E; clear E; go_wp2_with fail; (refine (calls_ext (edit_is _ 0 HY.out hk8 hv8 _)).mono ?_; rintro e w' ⟨rfl, x, rfl⟩; go_wp2_with fail); (refine (calls_ext (edit_is _ 11 HE.out hk8 hval _)).mono ?_; rintro e w' ⟨rfl, x, rfl⟩; go_wp2_with fail); go_returns; refine ⟨?_, by (repeat' (first | (with_reducible exact Kp.refl _) | (with_reducible assumption) | (with_reducible refine Kp.alloc ?_ _) | (with_reducible refine Kp.ext ?_ _) | (with_reducible refine Kp.put ?_ _ _ _ ?_) | (with_reducible refine Kp.drew ?_) | (with_reducible refine Kp.drewN ?_ _) | (with_reducible refine Kp.setCell ?_ ?_ _) | (with_reducible refine Kp.trans ?_ (by assumption)) | (with_reducible exact Nat.le_refl _) | omega | (simp only [World.size_alloc, World.size_setCell, World.size_drew, size_drewN]; omega) | (simp; omega) | (simp; done)))⟩; first | rfl | (simp; done) | (simp; omega))
  · rcases hL with rfl | rfl | ⟨l0, l1, hL⟩
    · rcases hS with hS | ⟨s1, s2⟩ | hS
      · have E : editErr ⟨K, kk, 0, value⟩ = 12 := by rw [editErr_long _ (by exact hK) (by exact k5) HKEY.out]; exact valueErr_no _ (.inl (by show value.size < 1; omega))
        have hv1 := hvl hS
        clear hvl hvn
        (have HE := Lib.hid E; clear E; go_wp2_with fail; (refine (calls_ext (edit_is _ 0 HY.out hk8 hv8 _)).mono ?_; rintro e w' ⟨rfl, x, rfl⟩; go_wp2_with fail); (refine (calls_ext (edit_is _ 12 HE.out hk8 hval _)).mono ?_; rintro e w' ⟨rfl, x, rfl⟩; go_wp2_with fail); go_returns; refine ⟨?_, by (repeat' (first | (with_reducible exact Kp.refl _) | (with_reducible assumption) | (with_reducible refine Kp.alloc ?_ _) | (with_reducible refine Kp.ext ?_ _) | (with_reducible refine Kp.put ?_ _ _ _ ?_) | (with_reducible refine Kp.drew ?_) | (with_reducible refine Kp.drewN ?_ _) | (with_reducible refine Kp.setCell ?_ ?_ _) | (with_reducible refine Kp.trans ?_ (by assumption)) | (with_reducible exact Nat.le_refl _) | omega | (simp only [World.size_alloc, World.size_setCell, World.size_drew, size_drewN]; omega) | (simp; omega) | (simp; done)))⟩; first | rfl | (simp; done) | (simp; omega))
      · have E : editErr ⟨K, kk, 0, value⟩ = 0 := by rw [editErr_long _ (by exact hK) (by exact k5) HKEY.out]; exact valueErr_ok _ s1 s2
        obtain ⟨hv1, hv2⟩ := hvn (by omega)
        clear hvl hvn
        (have HE := Lib.hid E; clear E; go_wp2_with fail; (refine (calls_ext (edit_is _ 0 HY.out hk8 hv8 _)).mono ?_; rintro e w' ⟨rfl, x, rfl⟩; go_wp2_with fail); (refine (calls_ext (edit_is _ 0 HE.out hk8 hval _)).mono ?_; rintro e w' ⟨rfl, x, rfl⟩; go_wp2_with fail); go_returns; refine ⟨?_, by (repeat' (first | (with_reducible exact Kp.refl _) | (with_reducible assumption) | (with_reducible refine Kp.alloc ?_ _) | (with_reducible refine Kp.ext ?_ _) | (with_reducible refine Kp.put ?_ _ _ _ ?_) | (with_reducible refine Kp.drew ?_) | (with_reducible refine Kp.drewN ?_ _) | (with_reducible refine Kp.setCell ?_ ?_ _) | (with_reducible refine Kp.trans ?_ (by assumption)) | (with_reducible exact Nat.le_refl _) | omega | (simp only [World.size_alloc, World.size_setCell, World.size_drew, size_drewN]; omega) | (simp; omega) | (simp; done)))⟩; first | rfl | (simp; done) | (simp; omega))
      · have E : editErr ⟨K, kk, 0, value⟩ = 12 := by rw [editErr_long _ (by exact hK) (by exact k5) HKEY.out]; exact valueErr_no _ (.inr hS)
        obtain ⟨hv1, hv2⟩ := hvn (by omega)
        clear hvl hvn
        (have HE := Lib.hid E; clear E; go_wp2_with fail; (refine (calls_ext (edit_is _ 0 HY.out hk8 hv8 _)).mono ?_; rintro e w' ⟨rfl, x, rfl⟩; go_wp2_with fail); (refine (calls_ext (edit_is _ 12 HE.out hk8 hval _)).mono ?_; rintro e w' ⟨rfl, x, rfl⟩; go_wp2_with fail); go_returns; refine ⟨?_, by (repeat' (first | (with_reducible exact Kp.refl _) | (with_reducible assumption) | (with_reducible refine Kp.alloc ?_ _) | (with_reducible refine Kp.ext ?_ _) | (with_reducible refine Kp.put ?_ _ _ _ ?_) | (with_reducible refine Kp.drew ?_) | (with_reducible refine Kp.drewN ?_ _) | (with_reducible refine Kp.setCell ?_ ?_ _) | (with_reducible refine Kp.trans ?_ (by assumption)) | (with_reducible exact Nat.le_refl _) | omega | (simp only [World.size_alloc, World.size_setCell, World.size_drew, size_drewN]; omega) | (simp; omega) | (simp; done)))⟩; first | rfl | (simp; done) | (simp; omega))
    · rcases hS with hS | ⟨s1, s2⟩ | hS
      · have E : editErr ⟨K, kk, 1, value⟩ = 12 := by rw [editErr_long _ (by exact hK) (by exact k5) HKEY.out]; exact valueErr_no _ (.inl (by show value.size < 1; omega))
        have hv1 := hvl hS
        clear hvl hvn
        (have HE := Lib.hid E; clear E; go_wp2_with fail; (refine (calls_ext (edit_is _ 0 HY.out hk8 hv8 _)).mono ?_; rintro e w' ⟨rfl, x, rfl⟩; go_wp2_with fail); (refine (calls_ext (edit_is _ 12 HE.out hk8 hval _)).mono ?_; rintro e w' ⟨rfl, x, rfl⟩; go_wp2_with fail); go_returns; refine ⟨?_, by (repeat' (first | (with_reducible exact Kp.refl _) | (with_reducible assumption) | (with_reducible refine Kp.alloc ?_ _) | (with_reducible refine Kp.ext ?_ _) | (with_reducible refine Kp.put ?_ _ _ _ ?_) | (with_reducible refine Kp.drew ?_) | (with_reducible refine Kp.drewN ?_ _) | (with_reducible refine Kp.setCell ?_ ?_ _) | (with_reducible refine Kp.trans ?_ (by assumption)) | (with_reducible exact Nat.le_refl _) | omega | (simp only [World.size_alloc, World.size_setCell, World.size_drew, size_drewN]; omega) | (simp; omega) | (simp; done)))⟩; first | rfl | (simp; done) | (simp; omega))
      · have E : editErr ⟨K, kk, 1, value⟩ = 0 := by rw [editErr_long _ (by exact hK) (by exact k5) HKEY.out]; exact valueErr_ok _ s1 s2
        obtain ⟨hv1, hv2⟩ := hvn (by omega)
        clear hvl hvn
        (have HE := Lib.hid E; clear E; go_wp2_with fail; (refine (calls_ext (edit_is _ 0 HY.out hk8 hv8 _)).mono ?_; rintro e w' ⟨rfl, x, rfl⟩; go_wp2_with fail); (refine (calls_ext (edit_is _ 0 HE.out hk8 hval _)).mono ?_; rintro e w' ⟨rfl, x, rfl⟩; go_wp2_with fail); go_returns; refine ⟨?_, by (repeat' (first | (with_reducible exact Kp.refl _) | (with_reducible assumption) | (with_reducible refine Kp.alloc ?_ _) | (with_reducible refine Kp.ext ?_ _) | (with_reducible refine Kp.put ?_ _ _ _ ?_) | (with_reducible refine Kp.drew ?_) | (with_reducible refine Kp.drewN ?_ _) | (with_reducible refine Kp.setCell ?_ ?_ _) | (with_reducible refine Kp.trans ?_ (by assumption)) | (with_reducible exact Nat.le_refl _) | omega | (simp only [World.size_alloc, World.size_setCell, World.size_drew, size_drewN]; omega) | (simp; omega) | (simp; done)))⟩; first | rfl | (simp; done) | (simp; omega))
      · have E : editErr ⟨K, kk, 1, value⟩ = 12 := by rw [editErr_long _ (by exact hK) (by exact k5) HKEY.out]; exact valueErr_no _ (.inr hS)
        obtain ⟨hv1, hv2⟩ := hvn (by omega)
        clear hvl hvn
        (have HE := Lib.hid E; clear E; go_wp2_with fail; (refine (calls_ext (edit_is _ 0 HY.out hk8 hv8 _)).mono ?_; rintro e w' ⟨rfl, x, rfl⟩; go_wp2_with fail); (refine (calls_ext (edit_is _ 12 HE.out hk8 hval _)).mono ?_; rintro e w' ⟨rfl, x, rfl⟩; go_wp2_with fail); go_returns; refine ⟨?_, by (repeat' (first | (with_reducible exact Kp.refl _) | (with_reducible assumption) | (with_reducible refine Kp.alloc ?_ _) | (with_reducible refine Kp.ext ?_ _) | (with_reducible refine Kp.put ?_ _ _ _ ?_) | (with_reducible refine Kp.drew ?_) | (with_reducible refine Kp.drewN ?_ _) | (with_reducible refine Kp.setCell ?_ ?_ _) | (with_reducible refine Kp.trans ?_ (by assumption)) | (with_reducible exact Nat.le_refl _) | omega | (simp only [World.size_alloc, World.size_setCell, World.size_drew, size_drewN]; omega) | (simp; omega) | (simp; done)))⟩; first | rfl | (simp; done) | (simp; omega))
    · have E : editErr ⟨K, kk, label, value⟩ = 11 := by rw [editErr_long _ (by exact hK) (by exact k5) HKEY.out]; show (if labelErr label ≠ 0 then 11 else valueErr value) = 11; rw [labelErr_no _ hL]; rfl
      clear hvl hvn hS
      (have HE := Lib.hid E; clear E; go_wp2_with fail; (refine (calls_ext (edit_is _ 0 HY.out hk8 hv8 _)).mono ?_; rintro e w' ⟨rfl, x, rfl⟩; go_wp2_with fail); (refine (calls_ext (edit_is _ 11 HE.out hk8 hval _)).mono ?_; rintro e w' ⟨rfl, x, rfl⟩; go_wp2_with fail); go_returns; refine ⟨?_, by (repeat' (first | (with_reducible exact Kp.refl _) | (with_reducible assumption) | (with_reducible refine Kp.alloc ?_ _) | (with_reducible refine Kp.ext ?_ _) | (with_reducible refine Kp.put ?_ _ _ _ ?_) | (with_reducible refine Kp.drew ?_) | (with_reducible refine Kp.drewN ?_ _) | (with_reducible refine Kp.setCell ?_ ?_ _) | (with_reducible refine Kp.trans ?_ (by assumption)) | (with_reducible exact Nat.le_refl _) | omega | (simp only [World.size_alloc, World.size_setCell, World.size_drew, size_drewN]; omega) | (simp; omega) | (simp; done)))⟩; first | rfl | (simp; done) | (simp; omega))
end Go.Proofs.Ytpamhedjdpfiaaa
