/- kithref05.Fit, walked: the edit that it makes may be. The condition: no text is longer than memory. -/
import Derived.Test.YtpamhedjdpfiaaaText2
import Derived.Test.YtpamhedjdpfiaaaPut
namespace Go.Proofs.Ytpamhedjdpfiaaa
open Go.RowKit
set_option linter.unusedSimpArgs false
set_option linter.unusedVariables false
/-- What Fit makes. -/
structure Ed.Fits (x : Ed) : Prop where
  k1 : 1 ≤ x.kind
  k5 : x.kind ≤ 5
  key : keyErr x.key = 0
  key8 : x.key.size ≤ 8
  bare : x.kind ≤ 2 → x.label = 0 ∧ x.value = ⟨#[]⟩
  full : 2 < x.kind → (x.label = 0 ∨ x.label = 1) ∧ 1 ≤ x.value.size ∧ x.value.size ≤ 12
theorem Ed.Fits.value12 {x : Ed} (h : x.Fits) : x.value.size ≤ 12 := by
  by_cases k : x.kind ≤ 2
  · rw [(h.bare k).2]; decide
  · exact (h.full (by omega)).2.2
set_option maxHeartbeats 4000000 in
theorem ref5_Fit (e : Ed) (w : World) (hk : e.key.size ≤ 140737488351232) (hv : e.value.size ≤ 140737488351232) :
    Calls Try.prog 32 #[e.val] w fun x w' => ∃ y : Ed, y.Fits ∧ x = .returned y.val ∧ Kp w w' := by
  obtain ⟨kind, key, label, value⟩ := e
  simp only [Ed.val] at *
  obtain ⟨t, ht⟩ : ∃ t, kind.tmod 5 = t := ⟨_, rfl⟩
  have ht1 : -4 ≤ t ∧ t ≤ 4 := by
    have h1 := Int.lt_tmod_of_pos kind (show (0 : Int) < 5 by omega)
    have h2 := Int.tmod_lt_of_pos kind (show (0 : Int) < 5 by omega)
    omega
  obtain ⟨t4, t5⟩ := ht1
  go_enter Try.func32, Try.ntmps32
  go_wp2_with fail
  go_loop [5, 6] (fun n i => ∃ k : Nat, ∃ m : Int, k ≤ key.size ∧ i = .int .i64 k ∧ n = .int .i64 m ∧ 0 ≤ m ∧ m ≤ 255 * k) (fun _ i => key.size - (intOf i).toNat)
  case atStart => exact ⟨0, 0, Nat.zero_le _, rfl, rfl, by omega, by omega⟩
  case round =>
    obtain ⟨k, m, hkk, rfl, rfl, m0, m1⟩ := hrel
    by_cases hlt : k < key.size
    · have hb : (key[k]'hlt).toNat < 256 := UInt8.toNat_lt _
      go_wp2_with fail
      go_round
      case rel => exact ⟨k + 1, _, by omega, by go_num, rfl, by omega, by omega⟩
      case measure => simp [intOf]; omega
    · go_wp2_with fail
      go_loop [7, 8] (fun n i => ∃ k : Nat, ∃ m : Int, k ≤ value.size ∧ i = .int .i64 k ∧ n = .int .i64 m ∧ 0 ≤ m ∧ m ≤ 255 * k) (fun _ i => value.size - (intOf i).toNat)
      case atStart => exact ⟨0, 0, Nat.zero_le _, rfl, rfl, by omega, by omega⟩
      case round =>
        obtain ⟨k', m', hkk', rfl, rfl, m0', m1'⟩ := hrel
        by_cases hlt' : k' < value.size
        · have hb : (value[k']'hlt').toNat < 256 := UInt8.toNat_lt _
          go_wp2_with fail
          go_round
          case rel => exact ⟨k' + 1, _, by omega, by go_num, rfl, by omega, by omega⟩
          case measure => simp [intOf]; omega
        · obtain ⟨v, hv5⟩ : ∃ v, (t + 5) % 5 = v := ⟨_, rfl⟩
          have v0 : 0 ≤ v := by omega
          have v4 : v ≤ 4 := by omega
          have hm : m % 3 = 0 ∨ m % 3 = 1 ∨ m % 3 = 2 := by omega
          go_wp2_with fail
          rcases hm with hm | hm | hm
          all_goals
            go_region
            by_cases hv2 : v ≤ 1
            · go_wp2_with fail
              go_returns
              refine ⟨⟨_, _, _, _⟩, ⟨?_, ?_, ?_, ?_, ?_, ?_⟩, rfl, by (repeat' (first | (with_reducible exact Kp.refl _) | (with_reducible assumption) | (with_reducible refine Kp.alloc ?_ _) | (with_reducible refine Kp.ext ?_ _) | (with_reducible refine Kp.put ?_ _ _ _ ?_) | (with_reducible refine Kp.drew ?_) | (with_reducible refine Kp.drewN ?_ _) | (with_reducible refine Kp.setCell ?_ ?_ _) | (with_reducible refine Kp.trans ?_ (by assumption)) | (with_reducible exact Nat.le_refl _) | omega | (simp only [World.size_alloc, World.size_setCell, World.size_drew, size_drewN]; omega) | (simp; omega) | (simp; done)))⟩
              · show 1 ≤ 1 + v; omega
              · show 1 + v ≤ 5; omega
              · rfl
              · dsimp only; decide
              · intro _; exact ⟨rfl, rfl⟩
              · intro h; exact absurd h (by show ¬ 2 < 1 + v; omega)
            · have hm' : m' % 4 = 0 ∨ m' % 4 = 1 ∨ m' % 4 = 2 ∨ m' % 4 = 3 := by omega
              have hv2' : 2 ≤ v := by omega
              rcases hm' with hm' | hm' | hm' | hm'
              all_goals
                go_wp2_with fail
                go_returns
                refine ⟨⟨_, _, _, _⟩, ⟨?_, ?_, ?_, ?_, ?_, ?_⟩, rfl, by (repeat' (first | (with_reducible exact Kp.refl _) | (with_reducible assumption) | (with_reducible refine Kp.alloc ?_ _) | (with_reducible refine Kp.ext ?_ _) | (with_reducible refine Kp.put ?_ _ _ _ ?_) | (with_reducible refine Kp.drew ?_) | (with_reducible refine Kp.drewN ?_ _) | (with_reducible refine Kp.setCell ?_ ?_ _) | (with_reducible refine Kp.trans ?_ (by assumption)) | (with_reducible exact Nat.le_refl _) | omega | (simp only [World.size_alloc, World.size_setCell, World.size_drew, size_drewN]; omega) | (simp; omega) | (simp; done)))⟩
                · show 1 ≤ 1 + v; omega
                · show 1 + v ≤ 5; omega
                · rfl
                · dsimp only; decide
                · intro h; exact absurd h (by show ¬ 1 + v ≤ 2; omega)
                · intro _; exact ⟨by show label % 2 = 0 ∨ label % 2 = 1; omega, by dsimp only; decide, by dsimp only; decide⟩
end Go.Proofs.Ytpamhedjdpfiaaa
