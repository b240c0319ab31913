/- TextValues, walked. No condition. -/
import Derived.Test.YtpamhedjdpfiaaaLaw5
import Derived.Test.YtpamhedjdpfiaaaSl
namespace Go.Proofs.Ytpamhedjdpfiaaa
open Go.RowKit
set_option linter.unusedSimpArgs false
set_option linter.unusedVariables false
set_option maxHeartbeats 800000 in
theorem textValues_walk (v : Value) (l : List UInt8) (w : World) (h : Sl w v 1 l.length (byteVals l)) : Calls Try.prog 6 #[v] w (Yes w) := by
  have hc : ∀ x : Later, (convert 32 9 v).run Try.prog (w.ext x) = .ok (.string ⟨l.toArray⟩) (w.ext x) := fun x =>
    (h.kp (kp_ext w x)).str Try.underlying32 Try.underlying5 Try.underlying9
  have hsz : (⟨l.toArray⟩ : ByteArray).size = l.length := by simp [ByteArray.size]
  obtain ⟨_, a, cap, rfl, h3, h4, _, _⟩ := h
  unfold maxLen at h4
  have hn : l.length = 0 ∨ (1 ≤ l.length ∧ l.length ≤ 12) ∨ 12 < l.length := by omega
  obtain ⟨s, hs⟩ : ∃ s : ByteArray, s = ⟨l.toArray⟩ := ⟨_, rfl⟩
  rw [← hs] at hc hsz
  clear hs
  rcases hn with hn | ⟨h1, h2⟩ | hn
  · have cv := fun w => calls_as (valueErr_no s (.inl (by omega))) (text_Value s w (by omega))
    have HSZ := Lib.hid hsz
    clear hsz
    have hn' : ((l.length : Int) == 0) = true := by simpa using hn
    have HN := Lib.hid hn
    clear hn
    go_enter Try.func6, Try.ntmps6
    go_wp2_with fail
    (refine (calls_ext (shown5 _)).mono ?_; rintro e w' ⟨rfl, x, rfl⟩; go_wp2_with fail)
    (refine (calls_ext (cv _)).mono ?_; rintro e w' ⟨rfl, x, rfl⟩; go_wp2_with fail)
    go_returns
    exact ⟨rfl, by (repeat' (first | (with_reducible exact Kp.refl _) | (with_reducible assumption) | (with_reducible refine Kp.alloc ?_ _) | (with_reducible refine Kp.ext ?_ _) | (with_reducible refine Kp.put ?_ _ _ _ ?_) | (with_reducible refine Kp.drew ?_) | (with_reducible refine Kp.drewN ?_ _) | (with_reducible refine Kp.setCell ?_ ?_ _) | (with_reducible refine Kp.trans ?_ (by assumption)) | (with_reducible exact Nat.le_refl _) | omega | (simp only [World.size_alloc, World.size_setCell, World.size_drew, size_drewN]; omega) | (simp; omega) | (simp; done)))⟩
  · have cv := fun w => calls_as (valueErr_ok s (by omega) (by omega)) (text_Value s w (by omega))
    have hn' : ((l.length : Int) == 0) = false := by rw [beq_eq_false_iff_ne]; omega
    clear hsz
    go_enter Try.func6, Try.ntmps6
    go_wp2_with fail
    (refine (calls_ext (shown5 _)).mono ?_; rintro e w' ⟨rfl, x, rfl⟩; go_wp2_with fail)
    (refine (calls_ext (cv _)).mono ?_; rintro e w' ⟨rfl, x, rfl⟩; go_wp2_with fail)
    go_returns
    exact ⟨rfl, by (repeat' (first | (with_reducible exact Kp.refl _) | (with_reducible assumption) | (with_reducible refine Kp.alloc ?_ _) | (with_reducible refine Kp.ext ?_ _) | (with_reducible refine Kp.put ?_ _ _ _ ?_) | (with_reducible refine Kp.drew ?_) | (with_reducible refine Kp.drewN ?_ _) | (with_reducible refine Kp.setCell ?_ ?_ _) | (with_reducible refine Kp.trans ?_ (by assumption)) | (with_reducible exact Nat.le_refl _) | omega | (simp only [World.size_alloc, World.size_setCell, World.size_drew, size_drewN]; omega) | (simp; omega) | (simp; done)))⟩
  · have cv := fun w => calls_as (valueErr_no s (.inr (by omega))) (text_Value s w (by omega))
    have hn' : ((l.length : Int) == 0) = false := by rw [beq_eq_false_iff_ne]; omega
    clear hsz
    go_enter Try.func6, Try.ntmps6
    go_wp2_with fail
    (refine (calls_ext (shown5 _)).mono ?_; rintro e w' ⟨rfl, x, rfl⟩; go_wp2_with fail)
    (refine (calls_ext (cv _)).mono ?_; rintro e w' ⟨rfl, x, rfl⟩; go_wp2_with fail)
    go_returns
    exact ⟨rfl, by (repeat' (first | (with_reducible exact Kp.refl _) | (with_reducible assumption) | (with_reducible refine Kp.alloc ?_ _) | (with_reducible refine Kp.ext ?_ _) | (with_reducible refine Kp.put ?_ _ _ _ ?_) | (with_reducible refine Kp.drew ?_) | (with_reducible refine Kp.drewN ?_ _) | (with_reducible refine Kp.setCell ?_ ?_ _) | (with_reducible refine Kp.trans ?_ (by assumption)) | (with_reducible exact Nat.le_refl _) | omega | (simp only [World.size_alloc, World.size_setCell, World.size_drew, size_drewN]; omega) | (simp; omega) | (simp; done)))⟩
end Go.Proofs.Ytpamhedjdpfiaaa
