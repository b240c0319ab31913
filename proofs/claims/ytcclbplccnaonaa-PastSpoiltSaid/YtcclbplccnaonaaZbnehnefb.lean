/- Several texts, one behind the other; each says in its head what it proves. No condition. -/
import Derived.Test.YtcclbplccnaonaaZbcobbhek
import Derived.Test.YtcclbplccnaonaaZohegdmhf
import Derived.Test.YtcclbplccnaonaaZdmaninif
import Derived.Test.YtcclbplccnaonaaZgmcgokpa
import Derived.Test.YtcclbplccnaonaaZmjoachec
/- What may be done is short. No condition. -/
namespace Go.Proofs.Ytcclbplccnaonaa
open Go.RowKit
set_option linter.unusedSimpArgs false
set_option linter.unusedVariables false
theorem err_str {e : Ed} (h : e.err = 0) : e.key.length ≤ 8 ∧ e.value.length ≤ 12 := by
  unfold Ed.err at h
  split at h
  · cases h
  · split at h
    · rename_i h2
      exact absurd h h2
    · rename_i h2
      have h2 : keyE e.key = 0 := Classical.not_not.1 h2
      have hk : e.key.length ≤ 8 := by
        unfold keyE at h2
        split at h2
        · rename_i h3; exact h3.2.1
        · cases h2
      refine ⟨hk, ?_⟩
      split at h
      · split at h
        · cases h
        · split at h
          · cases h
          · rename_i h4
            have h4 := Classical.not_not.1 h4
            rw [h4]; simp
      · split at h
        · rename_i h4; exact absurd h h4
        · unfold valueE at h
          split at h
          · rename_i h5; exact h5.2
          · cases h
end Go.Proofs.Ytcclbplccnaonaa
/- kithlaw08: the document's example; a past that was made; walked. No condition. -/
namespace Go.Proofs.Ytcclbplccnaonaa
open Go.RowKit
set_option linter.unusedSimpArgs false
set_option linter.unusedVariables false
set_option maxRecDepth 20000
def one8 : Ev := ⟨0, 1, ⟨0, 0, 0, 0, 0⟩, 1, ⟨1, [99, 121], 0, []⟩⟩
theorem has_zero (r n : Int) : (⟨0, 0, 0, 0, 0⟩ : Clk).has r n = false := Clk.has_f fun ⟨_, _, h2, h3⟩ => by
  have := zero_get r.toNat
  unfold Clk.zero at this
  omega
theorem one8_good : GoodP [one8] := by
  have hno : ∀ r n, one8.c.has r n = false := fun r n => has_zero r n
  refine ⟨⟨fun e he => ?_, by simp [Dst], fun e he r n hh => ?_, fun e he => ?_⟩, ?_⟩
  · simp only [List.mem_singleton] at he
    subst he
    refine ⟨by decide, by decide, by decide, fun i hi => ?_, by decide, by decide⟩
    match i, hi with
    | 0, _ => decide
    | 1, _ => decide
    | 2, _ => decide
    | 3, _ => decide
    | 4, _ => decide
  · simp only [List.mem_singleton] at he
    subst he
    rw [hno] at hh; cases hh
  · simp only [List.mem_singleton] at he
    subst he
    exact ⟨fun a _ h => (by rw [hno] at h; cases h), .inl ⟨rfl, fun a _ => hno _ _⟩⟩
  · exact OrdQ.nil.snoc fun r n hh => by rw [hno] at hh; cases hh
theorem p_str {w : List Ev} (h : RightQ w) : ∀ e ∈ w, e.ed.key.length ≤ 9223372036854775807 ∧ e.ed.value.length ≤ 9223372036854775807 := fun e he => by
  have := err_str (h.may e he).ed
  omega
theorem p_h64 {w : List Ev} (h : RightQ w) : ∀ e ∈ w, I64 e.h := fun e he => by
  have := (h.may e he).h
  unfold I64
  omega
theorem p_n64 {w : List Ev} (h : RightQ w) : ∀ e ∈ w, I64 e.n := fun e he => by
  have := (h.may e he).n
  unfold I64
  omega
/-- A past, made of 40 choices at most. -/
theorem made40 {l : List Ch} (hok : ∀ c ∈ l, c.Ok) : ∃ l2, l2 = l.take 40 ∧ l2.length ≤ 40 ∧ (∀ c ∈ l2, c.Ok) ∧ ∃ w, w = makeP l2 ∧ w.length ≤ 40 ∧ GoodP w := by
  have hl2l : (l.take 40).length ≤ 40 := by rw [List.length_take]; omega
  have hl2o : ∀ c ∈ l.take 40, c.Ok := fun c hc => hok c (List.mem_of_mem_take hc)
  have hmk := makeS_ok _ hl2o
  refine ⟨_, rfl, hl2l, hl2o, _, rfl, ?_, makeP_good _ (by omega) hl2o⟩
  have := hmk.len; unfold makeP; omega
set_option maxRecDepth 20000 attribute [local irreducible] Ex ExL Fn thn inb rnd fin meet Tab Mix mxEnd Val Sats RdT Rd RowT Row Blk Sub Fac ResV RVal Evs subs subs3 Hid Capd
theorem right_yes (v0 : Value) (l : List Ev) (M : List Assn) (hr : RdT M v0 l) (hl : l.length ≤ 1000000) (h : RightQ l) : Fn Try.prog 14 #[v0] M fun v L' => v = .bool true ∧ L' = M := by
  refine (right_F v0 l M hr hl (p_h64 h) (p_str h)).mono ?_
  rintro v L' ⟨⟨b, hb, rfl⟩, rfl⟩
  exact ⟨by rw [hb.2 (RightQ.iff.2 h)], rfl⟩
theorem right_no (v0 : Value) (l : List Ev) (M : List Assn) (hr : RdT M v0 l) (hl : l.length ≤ 1000000) (h : ¬ RightQ l) (hh : ∀ e ∈ l, I64 e.h) (hs : ∀ e ∈ l, e.ed.key.length ≤ 9223372036854775807 ∧ e.ed.value.length ≤ 9223372036854775807) : Fn Try.prog 14 #[v0] M fun v L' => v = .bool false ∧ L' = M := by
  refine (right_F v0 l M hr hl hh hs).mono ?_
  rintro v L' ⟨⟨b, hb, rfl⟩, rfl⟩
  cases b
  · exact ⟨rfl, rfl⟩
  · exact absurd (RightQ.iff.1 (hb.1 rfl)) h
theorem ordered_yes (v0 : Value) (l : List Ev) (M : List Assn) (hr : RdT M v0 l) (hl : l.length ≤ 1000000) (h : OrdQ l) : Fn Try.prog 15 #[v0] M fun v L' => v = .bool true ∧ L' = M := by
  refine (ordered_F v0 l M hr hl).mono ?_
  rintro v L' ⟨⟨b, hb, rfl⟩, rfl⟩
  exact ⟨by rw [hb.2 (OrdQ.iff.2 h)], rfl⟩
theorem height_nil (c : Clk) (M : List Assn) : Fn Try.prog 18 #[.slice none 0 0, c.val] M fun v L' => v = .int .i64 1 ∧ L' = M := by
  have h := pheight_F (.slice none 0 0) [] c M (RdT.nil _) (by simp) (by simp)
  exact h
set_option maxHeartbeats 4000000 in
theorem shown8_fn (L : List Assn) : Fn Try.prog 10 #[] L fun v L' => v = .bool true ∧ L' = L := by
  refine Fn.of_ex Try.func10 rfl Try.ntmps10 rfl ?_
  (repeat' (first | refine ExL.val (by rfl) (by rfl) (by rfl) rV ?_ | (first | refine Ex.seq ?_ | refine Ex.region ?_ | refine ExL.nil ?_ | refine thn_n ?_ | refine Ex.cond_t (by rfl) ?_ | refine Ex.cond_f (by rfl) ?_ | refine Ex.skip ?_ | refine Ex.block ?_ | refine Ex.exit ?_ | refine Ex.ret ?_ | refine thn_exit ?_ | refine thn_ret ?_ | refine inb_n ?_ | refine inb_hit (by rfl) ?_ | refine inb_miss (by rfl) ?_ | refine inb_ret ?_ | refine rnd_exit ?_ | refine rnd_ret ?_ | refine meet_ret ?_ | refine meet_exit ?_) | (apply exlGuard; first | refine ExL.gskip (by rfl) (by rfl) (by rfl) (by rfl) (by rfl) (by rfl) ?_ | refine ExL.gtake (by rfl) (by rfl) (by rfl) (by rfl) ?_ | refine ExL.gskipU (by rfl) (by rfl) (by rfl) (by rfl) ?_ | (refine ExL.gsplit (by rfl) (by rfl) (by rfl) (fun h => ?_) (fun h => ?_) <;> try (exfalso; omega))) | (first | refine st_new_ (by rfl) rE (fun g => ?_) | refine st_boxA (by rfl) (by rfl) (fun g => ?_) | refine st_box1 (by rfl) rE rN (fun g => ?_) | (apply exlStore; first | refine st_store1_ _ (by rfl) rK rE rN (by rfl) (by rfl) rE rE ?_ | refine st_storeW_ _ (by rfl) rK (by rfl) rC (by rfl) (by rfl) (by rfl) rE ?_ | refine st_storeR _ (by rfl) rK (by rfl) rE (by rfl) (by rfl) rE ?_ | refine st_storeA_ _ (by rfl) rK (by rfl) rC (by rfl) (by rfl) (by rfl) rE rE ?_ | refine st_storeB _ (by rfl) (by rfl) rO rO rK (by rfl) rO ?_ | refine st_storeG _ (by rfl) rK rE rN (by rfl) rO (fun cs hcs => ?_)) | refine st_slice0 (by rfl) (by rfl) (by rfl) (by rfl) (fun g => ?_) | refine st_slice1T (by rfl) (by rfl) (by rfl) (by rfl) (fun g => ?_) | refine st_makeT (by rfl) (by rfl) (by rfl) (by rfl) rE (by rfl) rO rO (fun v o => ?_) | (apply exlCopy; first | refine st_copyW _ (by rfl) rE rK rE rD (by rfl) rE (by rfl) (fun zs hzs => ?_) | refine st_copyS _ (by rfl) (by rfl) rK rE rD (by rfl) rE (by rfl) rO rO (fun zs hzs => ?_)) | refine st_sliceB (by rfl) (by rfl) (by rfl) (by rfl) (by rfl) (by rfl) (by rfl) rL rE rE (by rfl) (fun g => ?_) | refine st_slice1I (by rfl) (by rfl) (by rfl) (by rfl) (by rfl) (by rfl) (fun g => ?_) | refine st_slice1B (by rfl) (by rfl) (by rfl) (by rfl) (by rfl) (by rfl) rO rO (fun g => ?_) | refine st_slice1S (by rfl) (by rfl) (by rfl) (by rfl) (by rfl) (by rfl) (fun g => ?_) | refine st_slice2B (by rfl) (by rfl) (by rfl) (by rfl) (by rfl) (by rfl) (by rfl) rO rO rO rO (fun g => ?_) | (apply exlConv; first | refine st_bytes (by rfl) (by rfl) (by rfl) (by rfl) (by rfl) rO (fun v o => ?_) | refine st_mark _ (by rfl) (by rfl) rK (by rfl) (by rfl) (by rfl) ?_) | refine st_clear _ (0 : UInt8) (by rfl) rK (by rfl) (by rfl) (by rfl) (by rfl) (by rfl) rO ?_ | refine st_clearT _ (by rfl) rK rO (by rfl) (by rfl) rO rE ?_ | (apply exlAppend; first | refine st_app0 (by rfl) (by rfl) rE rD (by rfl) rE (by rfl) rE (by rfl) (by rfl) (by rfl) rO (fun v o => ?_) | refine st_app _ (by rfl) rE rK rE rD (by rfl) rE (by rfl) rE (by rfl) (by rfl) (by rfl) rO (fun v o => ?_) | refine st_shift _ (by rfl) (by rfl) (by rfl) rK rO (by rfl) (by rfl) (by rfl) rO rO rE ?_)) | (refine Ex.cond_d (by rfl) (fun h => ?_) (fun h => ?_) <;> try (exfalso; omega))))
  refine st_slice1T (a := one8) (by rfl) (by rfl) (by rfl) (by rfl) (fun g => ?_)
  (repeat' (first | refine ExL.val (by rfl) (by rfl) (by rfl) rV ?_ | (first | refine Ex.seq ?_ | refine Ex.region ?_ | refine ExL.nil ?_ | refine thn_n ?_ | refine Ex.cond_t (by rfl) ?_ | refine Ex.cond_f (by rfl) ?_ | refine Ex.skip ?_ | refine Ex.block ?_ | refine Ex.exit ?_ | refine Ex.ret ?_ | refine thn_exit ?_ | refine thn_ret ?_ | refine inb_n ?_ | refine inb_hit (by rfl) ?_ | refine inb_miss (by rfl) ?_ | refine inb_ret ?_ | refine rnd_exit ?_ | refine rnd_ret ?_ | refine meet_ret ?_ | refine meet_exit ?_) | (apply exlGuard; first | refine ExL.gskip (by rfl) (by rfl) (by rfl) (by rfl) (by rfl) (by rfl) ?_ | refine ExL.gtake (by rfl) (by rfl) (by rfl) (by rfl) ?_ | refine ExL.gskipU (by rfl) (by rfl) (by rfl) (by rfl) ?_ | (refine ExL.gsplit (by rfl) (by rfl) (by rfl) (fun h => ?_) (fun h => ?_) <;> try (exfalso; omega))) | (first | refine st_new_ (by rfl) rE (fun g => ?_) | refine st_boxA (by rfl) (by rfl) (fun g => ?_) | refine st_box1 (by rfl) rE rN (fun g => ?_) | (apply exlStore; first | refine st_store1_ _ (by rfl) rK rE rN (by rfl) (by rfl) rE rE ?_ | refine st_storeW_ _ (by rfl) rK (by rfl) rC (by rfl) (by rfl) (by rfl) rE ?_ | refine st_storeR _ (by rfl) rK (by rfl) rE (by rfl) (by rfl) rE ?_ | refine st_storeA_ _ (by rfl) rK (by rfl) rC (by rfl) (by rfl) (by rfl) rE rE ?_ | refine st_storeB _ (by rfl) (by rfl) rO rO rK (by rfl) rO ?_ | refine st_storeG _ (by rfl) rK rE rN (by rfl) rO (fun cs hcs => ?_)) | refine st_slice0 (by rfl) (by rfl) (by rfl) (by rfl) (fun g => ?_) | refine st_slice1T (by rfl) (by rfl) (by rfl) (by rfl) (fun g => ?_) | refine st_makeT (by rfl) (by rfl) (by rfl) (by rfl) rE (by rfl) rO rO (fun v o => ?_) | (apply exlCopy; first | refine st_copyW _ (by rfl) rE rK rE rD (by rfl) rE (by rfl) (fun zs hzs => ?_) | refine st_copyS _ (by rfl) (by rfl) rK rE rD (by rfl) rE (by rfl) rO rO (fun zs hzs => ?_)) | refine st_sliceB (by rfl) (by rfl) (by rfl) (by rfl) (by rfl) (by rfl) (by rfl) rL rE rE (by rfl) (fun g => ?_) | refine st_slice1I (by rfl) (by rfl) (by rfl) (by rfl) (by rfl) (by rfl) (fun g => ?_) | refine st_slice1B (by rfl) (by rfl) (by rfl) (by rfl) (by rfl) (by rfl) rO rO (fun g => ?_) | refine st_slice1S (by rfl) (by rfl) (by rfl) (by rfl) (by rfl) (by rfl) (fun g => ?_) | refine st_slice2B (by rfl) (by rfl) (by rfl) (by rfl) (by rfl) (by rfl) (by rfl) rO rO rO rO (fun g => ?_) | (apply exlConv; first | refine st_bytes (by rfl) (by rfl) (by rfl) (by rfl) (by rfl) rO (fun v o => ?_) | refine st_mark _ (by rfl) (by rfl) rK (by rfl) (by rfl) (by rfl) ?_) | refine st_clear _ (0 : UInt8) (by rfl) rK (by rfl) (by rfl) (by rfl) (by rfl) (by rfl) rO ?_ | refine st_clearT _ (by rfl) rK rO (by rfl) (by rfl) rO rE ?_ | (apply exlAppend; first | refine st_app0 (by rfl) (by rfl) rE rD (by rfl) rE (by rfl) rE (by rfl) (by rfl) (by rfl) rO (fun v o => ?_) | refine st_app _ (by rfl) rE rK rE rD (by rfl) rE (by rfl) rE (by rfl) (by rfl) (by rfl) rO (fun v o => ?_) | refine st_shift _ (by rfl) (by rfl) (by rfl) rK rO (by rfl) (by rfl) (by rfl) rO rO rE ?_)) | (refine Ex.cond_d (by rfl) (fun h => ?_) (fun h => ?_) <;> try (exfalso; omega))))
  refine st_callIs [] (by rfl) Try.call14 (by rfl) (by rfl) (right_yes _ [one8] _ rD (by simp) one8_good.right) ?_
  rintro _ _ ⟨rfl, rfl⟩
  (repeat' (first | refine ExL.val (by rfl) (by rfl) (by rfl) rV ?_ | (first | refine Ex.seq ?_ | refine Ex.region ?_ | refine ExL.nil ?_ | refine thn_n ?_ | refine Ex.cond_t (by rfl) ?_ | refine Ex.cond_f (by rfl) ?_ | refine Ex.skip ?_ | refine Ex.block ?_ | refine Ex.exit ?_ | refine Ex.ret ?_ | refine thn_exit ?_ | refine thn_ret ?_ | refine inb_n ?_ | refine inb_hit (by rfl) ?_ | refine inb_miss (by rfl) ?_ | refine inb_ret ?_ | refine rnd_exit ?_ | refine rnd_ret ?_ | refine meet_ret ?_ | refine meet_exit ?_) | (apply exlGuard; first | refine ExL.gskip (by rfl) (by rfl) (by rfl) (by rfl) (by rfl) (by rfl) ?_ | refine ExL.gtake (by rfl) (by rfl) (by rfl) (by rfl) ?_ | refine ExL.gskipU (by rfl) (by rfl) (by rfl) (by rfl) ?_ | (refine ExL.gsplit (by rfl) (by rfl) (by rfl) (fun h => ?_) (fun h => ?_) <;> try (exfalso; omega))) | (first | refine st_new_ (by rfl) rE (fun g => ?_) | refine st_boxA (by rfl) (by rfl) (fun g => ?_) | refine st_box1 (by rfl) rE rN (fun g => ?_) | (apply exlStore; first | refine st_store1_ _ (by rfl) rK rE rN (by rfl) (by rfl) rE rE ?_ | refine st_storeW_ _ (by rfl) rK (by rfl) rC (by rfl) (by rfl) (by rfl) rE ?_ | refine st_storeR _ (by rfl) rK (by rfl) rE (by rfl) (by rfl) rE ?_ | refine st_storeA_ _ (by rfl) rK (by rfl) rC (by rfl) (by rfl) (by rfl) rE rE ?_ | refine st_storeB _ (by rfl) (by rfl) rO rO rK (by rfl) rO ?_ | refine st_storeG _ (by rfl) rK rE rN (by rfl) rO (fun cs hcs => ?_)) | refine st_slice0 (by rfl) (by rfl) (by rfl) (by rfl) (fun g => ?_) | refine st_slice1T (by rfl) (by rfl) (by rfl) (by rfl) (fun g => ?_) | refine st_makeT (by rfl) (by rfl) (by rfl) (by rfl) rE (by rfl) rO rO (fun v o => ?_) | (apply exlCopy; first | refine st_copyW _ (by rfl) rE rK rE rD (by rfl) rE (by rfl) (fun zs hzs => ?_) | refine st_copyS _ (by rfl) (by rfl) rK rE rD (by rfl) rE (by rfl) rO rO (fun zs hzs => ?_)) | refine st_sliceB (by rfl) (by rfl) (by rfl) (by rfl) (by rfl) (by rfl) (by rfl) rL rE rE (by rfl) (fun g => ?_) | refine st_slice1I (by rfl) (by rfl) (by rfl) (by rfl) (by rfl) (by rfl) (fun g => ?_) | refine st_slice1B (by rfl) (by rfl) (by rfl) (by rfl) (by rfl) (by rfl) rO rO (fun g => ?_) | refine st_slice1S (by rfl) (by rfl) (by rfl) (by rfl) (by rfl) (by rfl) (fun g => ?_) | refine st_slice2B (by rfl) (by rfl) (by rfl) (by rfl) (by rfl) (by rfl) (by rfl) rO rO rO rO (fun g => ?_) | (apply exlConv; first | refine st_bytes (by rfl) (by rfl) (by rfl) (by rfl) (by rfl) rO (fun v o => ?_) | refine st_mark _ (by rfl) (by rfl) rK (by rfl) (by rfl) (by rfl) ?_) | refine st_clear _ (0 : UInt8) (by rfl) rK (by rfl) (by rfl) (by rfl) (by rfl) (by rfl) rO ?_ | refine st_clearT _ (by rfl) rK rO (by rfl) (by rfl) rO rE ?_ | (apply exlAppend; first | refine st_app0 (by rfl) (by rfl) rE rD (by rfl) rE (by rfl) rE (by rfl) (by rfl) (by rfl) rO (fun v o => ?_) | refine st_app _ (by rfl) rE rK rE rD (by rfl) rE (by rfl) rE (by rfl) (by rfl) (by rfl) rO (fun v o => ?_) | refine st_shift _ (by rfl) (by rfl) (by rfl) rK rO (by rfl) (by rfl) (by rfl) rO rO rE ?_)) | (refine Ex.cond_d (by rfl) (fun h => ?_) (fun h => ?_) <;> try (exfalso; omega))))
  refine st_callIs [] (by rfl) Try.call15 (by rfl) (by rfl) (ordered_yes _ [one8] _ rD (by simp) one8_good.ord) ?_
  rintro _ _ ⟨rfl, rfl⟩
  (repeat' (first | refine ExL.val (by rfl) (by rfl) (by rfl) rV ?_ | (first | refine Ex.seq ?_ | refine Ex.region ?_ | refine ExL.nil ?_ | refine thn_n ?_ | refine Ex.cond_t (by rfl) ?_ | refine Ex.cond_f (by rfl) ?_ | refine Ex.skip ?_ | refine Ex.block ?_ | refine Ex.exit ?_ | refine Ex.ret ?_ | refine thn_exit ?_ | refine thn_ret ?_ | refine inb_n ?_ | refine inb_hit (by rfl) ?_ | refine inb_miss (by rfl) ?_ | refine inb_ret ?_ | refine rnd_exit ?_ | refine rnd_ret ?_ | refine meet_ret ?_ | refine meet_exit ?_) | (apply exlGuard; first | refine ExL.gskip (by rfl) (by rfl) (by rfl) (by rfl) (by rfl) (by rfl) ?_ | refine ExL.gtake (by rfl) (by rfl) (by rfl) (by rfl) ?_ | refine ExL.gskipU (by rfl) (by rfl) (by rfl) (by rfl) ?_ | (refine ExL.gsplit (by rfl) (by rfl) (by rfl) (fun h => ?_) (fun h => ?_) <;> try (exfalso; omega))) | (first | refine st_new_ (by rfl) rE (fun g => ?_) | refine st_boxA (by rfl) (by rfl) (fun g => ?_) | refine st_box1 (by rfl) rE rN (fun g => ?_) | (apply exlStore; first | refine st_store1_ _ (by rfl) rK rE rN (by rfl) (by rfl) rE rE ?_ | refine st_storeW_ _ (by rfl) rK (by rfl) rC (by rfl) (by rfl) (by rfl) rE ?_ | refine st_storeR _ (by rfl) rK (by rfl) rE (by rfl) (by rfl) rE ?_ | refine st_storeA_ _ (by rfl) rK (by rfl) rC (by rfl) (by rfl) (by rfl) rE rE ?_ | refine st_storeB _ (by rfl) (by rfl) rO rO rK (by rfl) rO ?_ | refine st_storeG _ (by rfl) rK rE rN (by rfl) rO (fun cs hcs => ?_)) | refine st_slice0 (by rfl) (by rfl) (by rfl) (by rfl) (fun g => ?_) | refine st_slice1T (by rfl) (by rfl) (by rfl) (by rfl) (fun g => ?_) | refine st_makeT (by rfl) (by rfl) (by rfl) (by rfl) rE (by rfl) rO rO (fun v o => ?_) | (apply exlCopy; first | refine st_copyW _ (by rfl) rE rK rE rD (by rfl) rE (by rfl) (fun zs hzs => ?_) | refine st_copyS _ (by rfl) (by rfl) rK rE rD (by rfl) rE (by rfl) rO rO (fun zs hzs => ?_)) | refine st_sliceB (by rfl) (by rfl) (by rfl) (by rfl) (by rfl) (by rfl) (by rfl) rL rE rE (by rfl) (fun g => ?_) | refine st_slice1I (by rfl) (by rfl) (by rfl) (by rfl) (by rfl) (by rfl) (fun g => ?_) | refine st_slice1B (by rfl) (by rfl) (by rfl) (by rfl) (by rfl) (by rfl) rO rO (fun g => ?_) | refine st_slice1S (by rfl) (by rfl) (by rfl) (by rfl) (by rfl) (by rfl) (fun g => ?_) | refine st_slice2B (by rfl) (by rfl) (by rfl) (by rfl) (by rfl) (by rfl) (by rfl) rO rO rO rO (fun g => ?_) | (apply exlConv; first | refine st_bytes (by rfl) (by rfl) (by rfl) (by rfl) (by rfl) rO (fun v o => ?_) | refine st_mark _ (by rfl) (by rfl) rK (by rfl) (by rfl) (by rfl) ?_) | refine st_clear _ (0 : UInt8) (by rfl) rK (by rfl) (by rfl) (by rfl) (by rfl) (by rfl) rO ?_ | refine st_clearT _ (by rfl) rK rO (by rfl) (by rfl) rO rE ?_ | (apply exlAppend; first | refine st_app0 (by rfl) (by rfl) rE rD (by rfl) rE (by rfl) rE (by rfl) (by rfl) (by rfl) rO (fun v o => ?_) | refine st_app _ (by rfl) rE rK rE rD (by rfl) rE (by rfl) rE (by rfl) (by rfl) (by rfl) rO (fun v o => ?_) | refine st_shift _ (by rfl) (by rfl) (by rfl) rK rO (by rfl) (by rfl) (by rfl) rO rO rE ?_)) | (refine Ex.cond_d (by rfl) (fun h => ?_) (fun h => ?_) <;> try (exfalso; omega))))
  refine st_callIs [] (by rfl) Try.call14 (by rfl) (by rfl) (right_yes _ [] _ (RdT.nil _) (by simp) RightQ.nil) ?_
  rintro _ _ ⟨rfl, rfl⟩
  (repeat' (first | refine ExL.val (by rfl) (by rfl) (by rfl) rV ?_ | (first | refine Ex.seq ?_ | refine Ex.region ?_ | refine ExL.nil ?_ | refine thn_n ?_ | refine Ex.cond_t (by rfl) ?_ | refine Ex.cond_f (by rfl) ?_ | refine Ex.skip ?_ | refine Ex.block ?_ | refine Ex.exit ?_ | refine Ex.ret ?_ | refine thn_exit ?_ | refine thn_ret ?_ | refine inb_n ?_ | refine inb_hit (by rfl) ?_ | refine inb_miss (by rfl) ?_ | refine inb_ret ?_ | refine rnd_exit ?_ | refine rnd_ret ?_ | refine meet_ret ?_ | refine meet_exit ?_) | (apply exlGuard; first | refine ExL.gskip (by rfl) (by rfl) (by rfl) (by rfl) (by rfl) (by rfl) ?_ | refine ExL.gtake (by rfl) (by rfl) (by rfl) (by rfl) ?_ | refine ExL.gskipU (by rfl) (by rfl) (by rfl) (by rfl) ?_ | (refine ExL.gsplit (by rfl) (by rfl) (by rfl) (fun h => ?_) (fun h => ?_) <;> try (exfalso; omega))) | (first | refine st_new_ (by rfl) rE (fun g => ?_) | refine st_boxA (by rfl) (by rfl) (fun g => ?_) | refine st_box1 (by rfl) rE rN (fun g => ?_) | (apply exlStore; first | refine st_store1_ _ (by rfl) rK rE rN (by rfl) (by rfl) rE rE ?_ | refine st_storeW_ _ (by rfl) rK (by rfl) rC (by rfl) (by rfl) (by rfl) rE ?_ | refine st_storeR _ (by rfl) rK (by rfl) rE (by rfl) (by rfl) rE ?_ | refine st_storeA_ _ (by rfl) rK (by rfl) rC (by rfl) (by rfl) (by rfl) rE rE ?_ | refine st_storeB _ (by rfl) (by rfl) rO rO rK (by rfl) rO ?_ | refine st_storeG _ (by rfl) rK rE rN (by rfl) rO (fun cs hcs => ?_)) | refine st_slice0 (by rfl) (by rfl) (by rfl) (by rfl) (fun g => ?_) | refine st_slice1T (by rfl) (by rfl) (by rfl) (by rfl) (fun g => ?_) | refine st_makeT (by rfl) (by rfl) (by rfl) (by rfl) rE (by rfl) rO rO (fun v o => ?_) | (apply exlCopy; first | refine st_copyW _ (by rfl) rE rK rE rD (by rfl) rE (by rfl) (fun zs hzs => ?_) | refine st_copyS _ (by rfl) (by rfl) rK rE rD (by rfl) rE (by rfl) rO rO (fun zs hzs => ?_)) | refine st_sliceB (by rfl) (by rfl) (by rfl) (by rfl) (by rfl) (by rfl) (by rfl) rL rE rE (by rfl) (fun g => ?_) | refine st_slice1I (by rfl) (by rfl) (by rfl) (by rfl) (by rfl) (by rfl) (fun g => ?_) | refine st_slice1B (by rfl) (by rfl) (by rfl) (by rfl) (by rfl) (by rfl) rO rO (fun g => ?_) | refine st_slice1S (by rfl) (by rfl) (by rfl) (by rfl) (by rfl) (by rfl) (fun g => ?_) | refine st_slice2B (by rfl) (by rfl) (by rfl) (by rfl) (by rfl) (by rfl) (by rfl) rO rO rO rO (fun g => ?_) | (apply exlConv; first | refine st_bytes (by rfl) (by rfl) (by rfl) (by rfl) (by rfl) rO (fun v o => ?_) | refine st_mark _ (by rfl) (by rfl) rK (by rfl) (by rfl) (by rfl) ?_) | refine st_clear _ (0 : UInt8) (by rfl) rK (by rfl) (by rfl) (by rfl) (by rfl) (by rfl) rO ?_ | refine st_clearT _ (by rfl) rK rO (by rfl) (by rfl) rO rE ?_ | (apply exlAppend; first | refine st_app0 (by rfl) (by rfl) rE rD (by rfl) rE (by rfl) rE (by rfl) (by rfl) (by rfl) rO (fun v o => ?_) | refine st_app _ (by rfl) rE rK rE rD (by rfl) rE (by rfl) rE (by rfl) (by rfl) (by rfl) rO (fun v o => ?_) | refine st_shift _ (by rfl) (by rfl) (by rfl) rK rO (by rfl) (by rfl) (by rfl) rO rO rE ?_)) | (refine Ex.cond_d (by rfl) (fun h => ?_) (fun h => ?_) <;> try (exfalso; omega))))
  refine st_callIs [] (by rfl) Try.call15 (by rfl) (by rfl) (ordered_yes _ [] _ (RdT.nil _) (by simp) OrdQ.nil) ?_
  rintro _ _ ⟨rfl, rfl⟩
  (repeat' (first | refine ExL.val (by rfl) (by rfl) (by rfl) rV ?_ | (first | refine Ex.seq ?_ | refine Ex.region ?_ | refine ExL.nil ?_ | refine thn_n ?_ | refine Ex.cond_t (by rfl) ?_ | refine Ex.cond_f (by rfl) ?_ | refine Ex.skip ?_ | refine Ex.block ?_ | refine Ex.exit ?_ | refine Ex.ret ?_ | refine thn_exit ?_ | refine thn_ret ?_ | refine inb_n ?_ | refine inb_hit (by rfl) ?_ | refine inb_miss (by rfl) ?_ | refine inb_ret ?_ | refine rnd_exit ?_ | refine rnd_ret ?_ | refine meet_ret ?_ | refine meet_exit ?_) | (apply exlGuard; first | refine ExL.gskip (by rfl) (by rfl) (by rfl) (by rfl) (by rfl) (by rfl) ?_ | refine ExL.gtake (by rfl) (by rfl) (by rfl) (by rfl) ?_ | refine ExL.gskipU (by rfl) (by rfl) (by rfl) (by rfl) ?_ | (refine ExL.gsplit (by rfl) (by rfl) (by rfl) (fun h => ?_) (fun h => ?_) <;> try (exfalso; omega))) | (first | refine st_new_ (by rfl) rE (fun g => ?_) | refine st_boxA (by rfl) (by rfl) (fun g => ?_) | refine st_box1 (by rfl) rE rN (fun g => ?_) | (apply exlStore; first | refine st_store1_ _ (by rfl) rK rE rN (by rfl) (by rfl) rE rE ?_ | refine st_storeW_ _ (by rfl) rK (by rfl) rC (by rfl) (by rfl) (by rfl) rE ?_ | refine st_storeR _ (by rfl) rK (by rfl) rE (by rfl) (by rfl) rE ?_ | refine st_storeA_ _ (by rfl) rK (by rfl) rC (by rfl) (by rfl) (by rfl) rE rE ?_ | refine st_storeB _ (by rfl) (by rfl) rO rO rK (by rfl) rO ?_ | refine st_storeG _ (by rfl) rK rE rN (by rfl) rO (fun cs hcs => ?_)) | refine st_slice0 (by rfl) (by rfl) (by rfl) (by rfl) (fun g => ?_) | refine st_slice1T (by rfl) (by rfl) (by rfl) (by rfl) (fun g => ?_) | refine st_makeT (by rfl) (by rfl) (by rfl) (by rfl) rE (by rfl) rO rO (fun v o => ?_) | (apply exlCopy; first | refine st_copyW _ (by rfl) rE rK rE rD (by rfl) rE (by rfl) (fun zs hzs => ?_) | refine st_copyS _ (by rfl) (by rfl) rK rE rD (by rfl) rE (by rfl) rO rO (fun zs hzs => ?_)) | refine st_sliceB (by rfl) (by rfl) (by rfl) (by rfl) (by rfl) (by rfl) (by rfl) rL rE rE (by rfl) (fun g => ?_) | refine st_slice1I (by rfl) (by rfl) (by rfl) (by rfl) (by rfl) (by rfl) (fun g => ?_) | refine st_slice1B (by rfl) (by rfl) (by rfl) (by rfl) (by rfl) (by rfl) rO rO (fun g => ?_) | refine st_slice1S (by rfl) (by rfl) (by rfl) (by rfl) (by rfl) (by rfl) (fun g => ?_) | refine st_slice2B (by rfl) (by rfl) (by rfl) (by rfl) (by rfl) (by rfl) (by rfl) rO rO rO rO (fun g => ?_) | (apply exlConv; first | refine st_bytes (by rfl) (by rfl) (by rfl) (by rfl) (by rfl) rO (fun v o => ?_) | refine st_mark _ (by rfl) (by rfl) rK (by rfl) (by rfl) (by rfl) ?_) | refine st_clear _ (0 : UInt8) (by rfl) rK (by rfl) (by rfl) (by rfl) (by rfl) (by rfl) rO ?_ | refine st_clearT _ (by rfl) rK rO (by rfl) (by rfl) rO rE ?_ | (apply exlAppend; first | refine st_app0 (by rfl) (by rfl) rE rD (by rfl) rE (by rfl) rE (by rfl) (by rfl) (by rfl) rO (fun v o => ?_) | refine st_app _ (by rfl) rE rK rE rD (by rfl) rE (by rfl) rE (by rfl) (by rfl) (by rfl) rO (fun v o => ?_) | refine st_shift _ (by rfl) (by rfl) (by rfl) rK rO (by rfl) (by rfl) (by rfl) rO rO rE ?_)) | (refine Ex.cond_d (by rfl) (fun h => ?_) (fun h => ?_) <;> try (exfalso; omega))))
  refine st_callIs [] (by rfl) Try.call18 (by rfl) (by rfl) (height_nil ⟨0, 0, 0, 0, 0⟩ _) ?_
  rintro _ _ ⟨rfl, rfl⟩
  (repeat' (first | refine ExL.val (by rfl) (by rfl) (by rfl) rV ?_ | (first | refine Ex.seq ?_ | refine Ex.region ?_ | refine ExL.nil ?_ | refine thn_n ?_ | refine Ex.cond_t (by rfl) ?_ | refine Ex.cond_f (by rfl) ?_ | refine Ex.skip ?_ | refine Ex.block ?_ | refine Ex.exit ?_ | refine Ex.ret ?_ | refine thn_exit ?_ | refine thn_ret ?_ | refine inb_n ?_ | refine inb_hit (by rfl) ?_ | refine inb_miss (by rfl) ?_ | refine inb_ret ?_ | refine rnd_exit ?_ | refine rnd_ret ?_ | refine meet_ret ?_ | refine meet_exit ?_) | (apply exlGuard; first | refine ExL.gskip (by rfl) (by rfl) (by rfl) (by rfl) (by rfl) (by rfl) ?_ | refine ExL.gtake (by rfl) (by rfl) (by rfl) (by rfl) ?_ | refine ExL.gskipU (by rfl) (by rfl) (by rfl) (by rfl) ?_ | (refine ExL.gsplit (by rfl) (by rfl) (by rfl) (fun h => ?_) (fun h => ?_) <;> try (exfalso; omega))) | (first | refine st_new_ (by rfl) rE (fun g => ?_) | refine st_boxA (by rfl) (by rfl) (fun g => ?_) | refine st_box1 (by rfl) rE rN (fun g => ?_) | (apply exlStore; first | refine st_store1_ _ (by rfl) rK rE rN (by rfl) (by rfl) rE rE ?_ | refine st_storeW_ _ (by rfl) rK (by rfl) rC (by rfl) (by rfl) (by rfl) rE ?_ | refine st_storeR _ (by rfl) rK (by rfl) rE (by rfl) (by rfl) rE ?_ | refine st_storeA_ _ (by rfl) rK (by rfl) rC (by rfl) (by rfl) (by rfl) rE rE ?_ | refine st_storeB _ (by rfl) (by rfl) rO rO rK (by rfl) rO ?_ | refine st_storeG _ (by rfl) rK rE rN (by rfl) rO (fun cs hcs => ?_)) | refine st_slice0 (by rfl) (by rfl) (by rfl) (by rfl) (fun g => ?_) | refine st_slice1T (by rfl) (by rfl) (by rfl) (by rfl) (fun g => ?_) | refine st_makeT (by rfl) (by rfl) (by rfl) (by rfl) rE (by rfl) rO rO (fun v o => ?_) | (apply exlCopy; first | refine st_copyW _ (by rfl) rE rK rE rD (by rfl) rE (by rfl) (fun zs hzs => ?_) | refine st_copyS _ (by rfl) (by rfl) rK rE rD (by rfl) rE (by rfl) rO rO (fun zs hzs => ?_)) | refine st_sliceB (by rfl) (by rfl) (by rfl) (by rfl) (by rfl) (by rfl) (by rfl) rL rE rE (by rfl) (fun g => ?_) | refine st_slice1I (by rfl) (by rfl) (by rfl) (by rfl) (by rfl) (by rfl) (fun g => ?_) | refine st_slice1B (by rfl) (by rfl) (by rfl) (by rfl) (by rfl) (by rfl) rO rO (fun g => ?_) | refine st_slice1S (by rfl) (by rfl) (by rfl) (by rfl) (by rfl) (by rfl) (fun g => ?_) | refine st_slice2B (by rfl) (by rfl) (by rfl) (by rfl) (by rfl) (by rfl) (by rfl) rO rO rO rO (fun g => ?_) | (apply exlConv; first | refine st_bytes (by rfl) (by rfl) (by rfl) (by rfl) (by rfl) rO (fun v o => ?_) | refine st_mark _ (by rfl) (by rfl) rK (by rfl) (by rfl) (by rfl) ?_) | refine st_clear _ (0 : UInt8) (by rfl) rK (by rfl) (by rfl) (by rfl) (by rfl) (by rfl) rO ?_ | refine st_clearT _ (by rfl) rK rO (by rfl) (by rfl) rO rE ?_ | (apply exlAppend; first | refine st_app0 (by rfl) (by rfl) rE rD (by rfl) rE (by rfl) rE (by rfl) (by rfl) (by rfl) rO (fun v o => ?_) | refine st_app _ (by rfl) rE rK rE rD (by rfl) rE (by rfl) rE (by rfl) (by rfl) (by rfl) rO (fun v o => ?_) | refine st_shift _ (by rfl) (by rfl) (by rfl) rK rO (by rfl) (by rfl) (by rfl) rO rO rE ?_)) | (refine Ex.cond_d (by rfl) (fun h => ?_) (fun h => ?_) <;> try (exfalso; omega))))
  (first | refine fin_ret rS ?_ | refine fin_norm rS ?_)
  exact ⟨_, rB, rfl, rfl⟩
theorem short8_F (v0 : Value) (l : List Ch) (M : List Assn) (hr : RdT M v0 l) : Fn Try.prog 12 #[v0] M fun v L' => RdT M v (l.take 40) ∧ L' = M := by
  refine Fn.of_ex Try.func12 rfl Try.ntmps12 rfl ?_
  (repeat' (first | refine ExL.val (by rfl) (by rfl) (by rfl) rV ?_ | (first | refine Ex.seq ?_ | refine Ex.region ?_ | refine ExL.nil ?_ | refine thn_n ?_ | refine Ex.cond_t (by rfl) ?_ | refine Ex.cond_f (by rfl) ?_ | refine Ex.skip ?_ | refine Ex.block ?_ | refine Ex.exit ?_ | refine Ex.ret ?_ | refine thn_exit ?_ | refine thn_ret ?_ | refine inb_n ?_ | refine inb_hit (by rfl) ?_ | refine inb_miss (by rfl) ?_ | refine inb_ret ?_ | refine rnd_exit ?_ | refine rnd_ret ?_ | refine meet_ret ?_ | refine meet_exit ?_) | (apply exlGuard; first | refine ExL.gskip (by rfl) (by rfl) (by rfl) (by rfl) (by rfl) (by rfl) ?_ | refine ExL.gtake (by rfl) (by rfl) (by rfl) (by rfl) ?_ | refine ExL.gskipU (by rfl) (by rfl) (by rfl) (by rfl) ?_ | (refine ExL.gsplit (by rfl) (by rfl) (by rfl) (fun h => ?_) (fun h => ?_) <;> try (exfalso; omega))) | (first | refine st_new_ (by rfl) rE (fun g => ?_) | refine st_boxA (by rfl) (by rfl) (fun g => ?_) | refine st_box1 (by rfl) rE rN (fun g => ?_) | (apply exlStore; first | refine st_store1_ _ (by rfl) rK rE rN (by rfl) (by rfl) rE rE ?_ | refine st_storeW_ _ (by rfl) rK (by rfl) rC (by rfl) (by rfl) (by rfl) rE ?_ | refine st_storeR _ (by rfl) rK (by rfl) rE (by rfl) (by rfl) rE ?_ | refine st_storeA_ _ (by rfl) rK (by rfl) rC (by rfl) (by rfl) (by rfl) rE rE ?_ | refine st_storeB _ (by rfl) (by rfl) rO rO rK (by rfl) rO ?_ | refine st_storeG _ (by rfl) rK rE rN (by rfl) rO (fun cs hcs => ?_)) | refine st_slice0 (by rfl) (by rfl) (by rfl) (by rfl) (fun g => ?_) | refine st_slice1T (by rfl) (by rfl) (by rfl) (by rfl) (fun g => ?_) | refine st_makeT (by rfl) (by rfl) (by rfl) (by rfl) rE (by rfl) rO rO (fun v o => ?_) | (apply exlCopy; first | refine st_copyW _ (by rfl) rE rK rE rD (by rfl) rE (by rfl) (fun zs hzs => ?_) | refine st_copyS _ (by rfl) (by rfl) rK rE rD (by rfl) rE (by rfl) rO rO (fun zs hzs => ?_)) | refine st_sliceB (by rfl) (by rfl) (by rfl) (by rfl) (by rfl) (by rfl) (by rfl) rL rE rE (by rfl) (fun g => ?_) | refine st_slice1I (by rfl) (by rfl) (by rfl) (by rfl) (by rfl) (by rfl) (fun g => ?_) | refine st_slice1B (by rfl) (by rfl) (by rfl) (by rfl) (by rfl) (by rfl) rO rO (fun g => ?_) | refine st_slice1S (by rfl) (by rfl) (by rfl) (by rfl) (by rfl) (by rfl) (fun g => ?_) | refine st_slice2B (by rfl) (by rfl) (by rfl) (by rfl) (by rfl) (by rfl) (by rfl) rO rO rO rO (fun g => ?_) | (apply exlConv; first | refine st_bytes (by rfl) (by rfl) (by rfl) (by rfl) (by rfl) rO (fun v o => ?_) | refine st_mark _ (by rfl) (by rfl) rK (by rfl) (by rfl) (by rfl) ?_) | refine st_clear _ (0 : UInt8) (by rfl) rK (by rfl) (by rfl) (by rfl) (by rfl) (by rfl) rO ?_ | refine st_clearT _ (by rfl) rK rO (by rfl) (by rfl) rO rE ?_ | (apply exlAppend; first | refine st_app0 (by rfl) (by rfl) rE rD (by rfl) rE (by rfl) rE (by rfl) (by rfl) (by rfl) rO (fun v o => ?_) | refine st_app _ (by rfl) rE rK rE rD (by rfl) rE (by rfl) rE (by rfl) (by rfl) (by rfl) rO (fun v o => ?_) | refine st_shift _ (by rfl) (by rfl) (by rfl) rK rO (by rfl) (by rfl) (by rfl) rO rO rE ?_)) | (refine Ex.cond_d (by rfl) (fun h => ?_) (fun h => ?_) <;> try (exfalso; omega))))
  (first | refine fin_ret rS ?_ | refine fin_norm rS ?_)
  refine ⟨_, rB, ?_, rfl⟩
  have h : l.take 40 = l.take (min (l.length : Int) 40).toNat := by
    by_cases hl : l.length ≤ 40
    · rw [List.take_of_length_le hl, List.take_of_length_le (by omega)]
    · congr 1; omega
  rw [h]
  exact rD
end Go.Proofs.Ytcclbplccnaonaa
/- Many parts of memory as one; one of them in focus; fields in the midst of a block. No condition. -/
namespace Go.Proofs.Ytcclbplccnaonaa
open Go.RowKit
set_option linter.unusedSimpArgs false
set_option linter.unusedVariables false
/-- All of these, each in a part of its own. -/
def Star : List Assn → Assn
  | [], _ => True
  | A :: As, h => ∃ h1 h2 : Frag, h = h1.add h2 ∧ h1.disj h2 ∧ A h1 ∧ Star As h2
theorem frag_assoc {a b c : Frag} : (a.add b).add c = a.add (b.add c) := by
  funext n
  unfold Frag.add
  cases a n <;> rfl
theorem Star.open1 {A : Assn} {As : List Assn} (L : List Assn) : Sub (A :: Star As :: L) (Star (A :: As) :: L) := fun w F ⟨h, ⟨h1, h2, he, hd, a, rs⟩, d, s⟩ => by
  subst he
  have d1 : h1.disj F := fun n => by
    rcases d n with x | x
    · left
      unfold Frag.add at x
      cases hh : h1 n with
      | none => rfl
      | some o => rw [hh] at x; cases x
    · exact .inr x
  have d2 : h2.disj F := fun n => by
    rcases d n with x | x
    · rcases hd n with y | y
      · left
        unfold Frag.add at x
        rw [y] at x
        exact x
      · exact .inl y
    · exact .inr x
  refine ⟨h1, a, d1, h2, rs, ?_, ?_⟩
  · rw [Frag.disj_add]; exact ⟨Frag.disj_symm hd, d2⟩
  · rw [← Frag.add_left_comm hd, ← frag_assoc]; exact s
theorem Star.close1 {A : Assn} {As : List Assn} (L : List Assn) : Sub (Star (A :: As) :: L) (A :: Star As :: L) := fun w F ⟨h1, a, d, h2, rs, d2, s⟩ => by
  rw [Frag.disj_add] at d2
  refine ⟨h1.add h2, ⟨h1, h2, rfl, Frag.disj_symm d2.1, a, rs⟩, ?_, ?_⟩
  · intro n
    rcases d n with x | x
    · rcases d2.2 n with y | y
      · left; unfold Frag.add; rw [x]; exact y
      · exact .inr y
    · exact .inr x
  · rw [frag_assoc, Frag.add_left_comm (Frag.disj_symm d2.1)]; exact s
theorem Star.nil (L : List Assn) : Sub (Star [] :: L) L := fun w F s => by
  refine ⟨fun _ => none, trivial, fun n => Or.inl rfl, ?_⟩
  have : Frag.add (fun _ => none) F = F := by funext n; rfl
  rw [this]; exact s
/-- One of them in front. -/
theorem Star.focus : ∀ {As : List Assn} {i : Nat} {A : Assn} (L : List Assn), As[i]? = some A → Sub (A :: Star (As.eraseIdx i) :: L) (Star As :: L)
  | [], _, _, _, h => by simp at h
  | B :: As, 0, A, L, h => by
    simp at h; subst h; exact Star.open1 L
  | B :: As, i + 1, A, L, h => by
    simp at h
    have h1 := Star.focus (As := As) (i := i) (A := A) L h
    refine Sub.trans ?_ (Star.open1 L)
    refine Sub.trans ?_ (Sub.cons B h1)
    refine Sub.trans (Sub.cons A (Star.close1 (A := B) (As := As.eraseIdx i) L)) ?_
    exact Sub.front (L := B :: A :: Star (As.eraseIdx i) :: L) 1 rfl
theorem Star.unfocus : ∀ {As : List Assn} {i : Nat} (A : Assn) (L : List Assn), i < As.length → Sub (Star (As.set i A) :: L) (A :: Star (As.eraseIdx i) :: L)
  | [], _, _, _, h => by simp at h
  | B :: As, 0, A, L, h => Star.close1 L
  | B :: As, i + 1, A, L, h => by
    have h1 := Star.unfocus (As := As) (i := i) A L (by simpa using h)
    refine Sub.trans (Star.close1 (A := B) (As := As.set i A) L) ?_
    refine Sub.trans (Sub.cons B h1) ?_
    refine Sub.trans (Sub.front (L := A :: B :: Star (As.eraseIdx i) :: L) 1 rfl) ?_
    exact Sub.cons A (Star.open1 (A := B) (As := As.eraseIdx i) L)
theorem Star.last {As : List Assn} (A : Assn) : ∀ (L : List Assn), Sub (Star (As ++ [A]) :: L) (A :: Star As :: L) := by
  induction As with
  | nil => exact fun L => Star.close1 L
  | cons B As ih =>
    intro L
    refine Sub.trans (Star.close1 (A := B) (As := As ++ [A]) L) ?_
    refine Sub.trans (Sub.cons B (ih L)) ?_
    refine Sub.trans (Sub.front (L := A :: B :: Star As :: L) 1 rfl) ?_
    exact Sub.cons A (Star.open1 L)
/-- Two as one. -/
def Two (A B : Assn) : Assn := Star [A, B]
theorem Two.opn (A B : Assn) (L : List Assn) : Sub (A :: B :: L) (Two A B :: L) :=
  Sub.trans (Sub.cons A (Sub.trans (Sub.cons B (Sub.drop _ (Sub.refl L))) (Star.open1 (A := B) (As := []) L))) (Star.open1 (A := A) (As := [B]) L)
theorem Two.cls (A B : Assn) (L : List Assn) : Sub (Two A B :: L) (A :: B :: L) :=
  Sub.trans (Star.close1 (A := A) (As := [B]) L) (Sub.cons A (Sub.trans (Star.close1 (A := B) (As := []) L) (Sub.cons B (Star.nil L))))
/-- A pointer as a thing of a slice. -/
structure Ptr where
  g : Nat
deriving DecidableEq
instance : Rep Ptr := ⟨1, fun p => [.pointer (some ⟨p.g, 0, none⟩)], by decide, fun _ => rfl, fun _ => rfl⟩
section
variable {P : Program} {n : Nat} {ops : Array Oper} {Q : Post} {f : Nat → Value} {L : List Assn} {rest : List Oper} {d : Nat} {ty : TypeId} {pos : String} {af : Array Edge} {gd : Option (Nat × Bool)}
variable {α : Type} [Rep α] {xs : List α}
theorem mid_get {pre post : List Value} {j q : Nat} (hj : j < xs.length) (hq : q < Rep.sz α) : (pre ++ cellsOf xs ++ post)[pre.length + j * Rep.sz α + q]? = (Rep.cells (xs[j]'hj))[q]? := by
  have hl := cellsOf_len xs
  have hb : j * Rep.sz α + q < xs.length * Rep.sz α := by
    have : (j + 1) * Rep.sz α ≤ xs.length * Rep.sz α := Nat.mul_le_mul_right _ (by omega)
    rw [Nat.succ_mul] at this
    omega
  rw [List.append_assoc, List.getElem?_append_right (by omega), show pre.length + j * Rep.sz α + q - pre.length = j * Rep.sz α + q by omega, List.getElem?_append_left (by rw [hl]; exact hb)]
  have := cellsOf_get1 hj
  rw [← this, List.getElem?_take, if_pos hq, List.getElem?_drop]
/-- A thing in the midst of a block, whole. -/
theorem vl_loadMA (i : Nat) {t bt : TypeId} {x : Operand} {g j o sz : Nat} {cs pre post : List Value} (xs : List α) (hx : evalF f x = .pointer (some ⟨g, o + j * sz, none⟩)) (hi : L[i]? = some (Blk g bt cs)) (he : cs = pre ++ cellsOf xs ++ post) (ho : pre.length = o) (hA : aggB P t = some true) (hm : P.cellsOf t = sz) (hsz : Rep.sz α = sz) (hj : j < xs.length) :
    Val P ⟨some d, .load t x, ty, pos, af, gd⟩ f L (.agg (Rep.cells (xs[j]'hj)).toArray) := fun F w s => by
  subst he; subst ho; subst hsz
  have := run_loadVarA (P := P) w (t := t) (a := ⟨g, pre.length + j * Rep.sz α, none⟩) (cs := Rep.cells (xs[j]'hj)) hA (by rw [hm, Rep.len]) (by rw [Rep.len]; exact Rep.pos) (fun k u hk => by
    rw [addr_add]
    have hk2 : k < Rep.sz α := by have := (List.getElem?_eq_some_iff.1 hk).1; rwa [Rep.len] at this
    exact blk_cell hi (by rw [mid_get hj hk2]; exact hk) s)
  simp [execOp, hx, Instr.loadAt, Instr.sureAddr, this]
/-- One cell of it. -/
theorem vl_loadM1 (i : Nat) {t bt : TypeId} {x : Operand} {g j o q sz : Nat} {cs pre post : List Value} {v : Value} (xs : List α) (hx : evalF f x = .pointer (some ⟨g, o + j * sz + q, none⟩)) (hi : L[i]? = some (Blk g bt cs)) (he : cs = pre ++ cellsOf xs ++ post) (ho : pre.length = o) (hA : aggB P t = some false) (hsz : Rep.sz α = sz) (hj : j < xs.length) (hq : q < sz) (hv : (Rep.cells (xs[j]'hj))[q]? = some v) :
    Val P ⟨some d, .load t x, ty, pos, af, gd⟩ f L v := fun F w s => by
  subst he; subst ho; subst hsz
  have := blk_cell hi (o := pre.length + j * Rep.sz α + q) (v := v) (by rw [mid_get hj hq]; exact hv) s
  simp [execOp, hx, Instr.loadAt, Instr.sureAddr, run_loadVar1 w hA this]
theorem mid_set {pre post : List Value} {j : Nat} (hj : j < xs.length) (a : α) : (pre ++ cellsOf xs ++ post).take (pre.length + j * Rep.sz α) ++ Rep.cells a ++ (pre ++ cellsOf xs ++ post).drop (pre.length + j * Rep.sz α + Rep.sz α) = pre ++ cellsOf (xs.set j a) ++ post := by
  have hl := cellsOf_len xs
  have hb : j * Rep.sz α + Rep.sz α ≤ xs.length * Rep.sz α := by
    have : (j + 1) * Rep.sz α ≤ xs.length * Rep.sz α := Nat.mul_le_mul_right _ (by omega)
    rwa [Nat.succ_mul] at this
  rw [← cellsOf_setA hj a, List.append_assoc pre, List.take_append, List.drop_append, List.take_of_length_le (show pre.length ≤ pre.length + j * Rep.sz α by omega), List.drop_eq_nil_of_le (show pre.length ≤ pre.length + j * Rep.sz α + Rep.sz α by omega)]
  rw [show pre.length + j * Rep.sz α - pre.length = j * Rep.sz α by omega, show pre.length + j * Rep.sz α + Rep.sz α - pre.length = j * Rep.sz α + Rep.sz α by omega, List.take_append_of_le_length (by omega), List.drop_append_of_le_length (by omega)]
  simp [List.append_assoc]
theorem st_storeMA (i : Nat) {t bt : TypeId} {x y : Operand} {g j o sz : Nat} {cs pre post : List Value} (xs : List α) {a : α} {L' : List Assn} (hx : evalF f x = .pointer (some ⟨g, o + j * sz, none⟩)) (hi : L[i]? = some (Blk g bt cs)) (he : cs = pre ++ cellsOf xs ++ post) (ho : pre.length = o) (hy : evalF f y = .agg (Rep.cells a).toArray) (hm : P.cellsOf t = sz) (hsz : Rep.sz α = sz) (hj : j < xs.length)
    (hL : L.set i (Blk g bt (pre ++ cellsOf (xs.set j a) ++ post)) = L') (h : ExL P n ops rest Q f L') : ExL P n ops (⟨none, .store t x y, ty, pos, af, none⟩ :: rest) Q f L := by
  subst he; subst ho; subst hsz
  refine st_storeA i hx hy (Rep.one a) hi (by rw [hm, Rep.len]) (by rw [Rep.len]; exact Nat.ble_eq_true_of_le (show 0 + 1 ≤ _ from Rep.pos)) (by
    rw [Rep.len]
    have hl := cellsOf_len xs
    have hb : (j + 1) * Rep.sz α ≤ xs.length * Rep.sz α := Nat.mul_le_mul_right _ (by omega)
    rw [Nat.succ_mul] at hb
    exact Nat.ble_eq_true_of_le (by simp only [List.length_append]; omega)) ?_ h
  rw [Rep.len, mid_set hj a, hL]
/-- a[:] of an array in the midst of a block. -/
theorem vl_slArrO {t e : TypeId} {x : Operand} {g o m sz : Nat} (hx : evalF f x = .pointer (some ⟨g, o, none⟩)) (hu : P.underlying t = some (.array m e)) (hs : P.cellsOf e = sz) (hp : Nat.blt 0 sz = true) (hm : Nat.blt 0 m = true) :
    Val P ⟨some d, .slice t x none none none, ty, pos, af, gd⟩ f L (.slice (some ⟨g, o, none⟩) m m) := fun F w s => by
  have hm := Nat.le_of_ble_eq_true hm
  simp [execOp, hx, Instr.sliceAt, run_underlying hu, Instr.sureAddr, Instr.sliceBounds, run_sizeOf' w hs (Nat.le_of_ble_eq_true hp), show ¬ m = 0 by omega, addr_add]
theorem mid_over {pre post : List Value} {ys : List α} (hy : ys.length ≤ xs.length) : (pre ++ cellsOf xs ++ post).take pre.length ++ cellsOf ys ++ (pre ++ cellsOf xs ++ post).drop (pre.length + (cellsOf ys).length) = pre ++ cellsOf (ys ++ xs.drop ys.length) ++ post := by
  have hl := cellsOf_len xs
  have hl2 := cellsOf_len ys
  have hb : ys.length * Rep.sz α ≤ xs.length * Rep.sz α := Nat.mul_le_mul_right _ hy
  rw [cellsOf_append, ← cellsOf_drop, List.append_assoc pre, List.take_left, List.drop_append, List.drop_eq_nil_of_le (show pre.length ≤ pre.length + (cellsOf ys).length by omega), show pre.length + (cellsOf ys).length - pre.length = (cellsOf ys).length by omega, List.drop_append_of_le_length (by omega), hl2]
  simp [List.append_assoc]
/-- copy(a[:], u), where a stands in the midst of a block. -/
theorem st_copyM (i : Nat) {dd : Option Nat} {x y : Operand} {u : Value} {t t2 e bt : TypeId} {sz g o m c : Nat} {cs pre post : List Value} (xs ys : List α) (hd : dstOk n dd = true) (hx : evalF f x = .slice (some ⟨g, o, none⟩) m c) (hi : L[i]? = some (Blk g bt cs)) (he : cs = pre ++ cellsOf xs ++ post) (ho : pre.length = o) (hm : xs.length = m) (hy : evalF f y = u) (hr : RdT L u ys) (hle : ys.length ≤ m)
    (ht : P.underlying t = some (.slice e)) (hs : P.cellsOf e = sz) (hsz : Rep.sz α = sz)
    (h : ExL P n ops rest Q (updo f dd (.int .i64 (ys.length : Nat))) (L.set i (Blk g bt (pre ++ cellsOf (ys ++ xs.drop ys.length) ++ post)))) : ExL P n ops (⟨dd, .call ⟨.builtin .copy, #[x, y], #[t, t2]⟩, ty, pos, af, none⟩ :: rest) Q f L := by
  subst he; subst ho; subst hm; subst hsz; subst hy
  have hp : 0 < Rep.sz α := Rep.pos
  refine ExL.eff rfl hd (R := fun r L' => r = .int .i64 (ys.length : Nat) ∧ L' = L.set i (Blk g bt (pre ++ cellsOf (ys ++ xs.drop ys.length) ++ post))) (fun F w s => ?_) (fun v' L' e => by obtain ⟨rfl, rfl⟩ := e; exact h)
  obtain ⟨hl, a, cap, hev, hmc, hcm, han, hcell⟩ := hr w F s
  have hmin : Nat.min ys.length xs.length = ys.length := Nat.min_eq_left hle
  have hmin2 : min ys.length xs.length = ys.length := Nat.min_eq_left hle
  cases a with
  | none =>
    have h0 : ys.length = 0 := by have := han rfl; omega
    have e0 : ys = [] := List.eq_nil_of_length_eq_zero h0
    refine ⟨_, w, _, .inl ?_, Rest.refl w, ?_, rfl, rfl⟩
    · simp [execOp, resolve, invoke, builtin, hx, hev, Builtin.copy_, run_underlying ht, Builtin.lenOf, Builtin.firstCells, run_sizeOf' w hs hp, h0, loadCells, loadCellsFrom, storeCells, goInt]
    · subst e0
      have e1 : pre ++ cellsOf ([] ++ xs.drop ([] : List α).length) ++ post = pre ++ cellsOf xs ++ post := by simp
      rw [e1, list_set_same hi]; exact s
  | some ad =>
    have hload := run_loadCells_list (P := P) w ad (cellsOf ys) (fun j u hj => hcell ad rfl j u hj)
    rw [cellsOf_len] at hload
    have hle2 : ys.length * Rep.sz α ≤ xs.length * Rep.sz α := Nat.mul_le_mul_right _ hle
    obtain ⟨w', hrun, hre, hs2⟩ := run_storeCells_blk (P := P) (cellsOf ys) 0 pre.length w L (pre ++ cellsOf xs ++ post) hi (by simp only [List.length_append, cellsOf_len]; omega) (fun v hv => cellsOf_all _ v hv) s
    rw [Nat.add_zero, mid_over hle] at hs2
    refine ⟨_, w', _, .inl ?_, hre, hs2, rfl, rfl⟩
    simp [execOp, resolve, invoke, builtin, hx, hev, Builtin.copy_, run_underlying ht, Builtin.lenOf, Builtin.firstCells, run_sizeOf' w hs hp, hmin, hmin2, hload, hrun, goInt]
/-- A thing of a row of one's own is written, whole. -/
theorem st_storeRA (r : Nat) {t e : TypeId} {x y : Operand} {v : Value} {i sz : Nat} {a : α} {L' : List Assn} (hx : evalF f x = elt v (i * sz + 0)) (hy : evalF f y = .agg (Rep.cells a).toArray) (hi : L[r]? = some (RowT v e xs)) (hm : P.cellsOf t = sz) (hsz : Rep.sz α = sz) (hj : i < xs.length)
    (hL : L.set r (RowT v e (xs.set i a)) = L') (h : ExL P n ops rest Q f L') : ExL P n ops (⟨none, .store t x y, ty, pos, af, none⟩ :: rest) Q f L := by
  subst hsz; subst hL
  have hp : 0 < Rep.sz α := Rep.pos
  refine ExL.eff rfl rfl (R := fun _ L2 => L2 = L.set r (RowT v e (xs.set i a))) (fun F w s => ?_) (fun v L2 e => by subst e; exact h)
  have hb : (i + 1) * Rep.sz α ≤ xs.length * Rep.sz α := Nat.mul_le_mul_right _ (by omega)
  rw [Nat.succ_mul] at hb
  obtain ⟨g, w', ⟨c, hv⟩, hrun, hre, hs2⟩ := row_write (P := P) (w := w) (o := i * Rep.sz α) (us := Rep.cells a) (xs' := xs.set i a) hi (by rw [Rep.len]; omega) (by rw [Rep.len]; exact hp) (Rep.one a) (by rw [Rep.len]; exact cellsOf_setA hj a) (by simp) s
  refine ⟨_, w', _, .inr ⟨?_, rfl⟩, hre, hs2, rfl⟩
  subst hv
  simp only [elt, addr_add, Nat.zero_add, Nat.add_zero] at hx
  simp [execOp, hx, hy, Instr.storeAt, Instr.sureAddr, storeVar, Value.cells, run_sizeOf' w hm hp, hrun, Rep.len]
end
end Go.Proofs.Ytcclbplccnaonaa
/- Rows whose length is known without memory; one cell of a row is written. No condition. -/
namespace Go.Proofs.Ytcclbplccnaonaa
open Go.RowKit
set_option linter.unusedSimpArgs false
set_option linter.unusedVariables false
/-- v is a slice of n elements that has memory: what needs none. -/
def Spt (v : Value) (n : Nat) : Prop := ∃ a c, v = .slice (some a) n c
section
variable {P : Program} {n : Nat} {ops : Array Oper} {Q : Post} {f : Nat → Value} {L : List Assn} {d : Nat} {ty : TypeId} {pos : String} {af : Array Edge} {gd : Option (Nat × Bool)} {v : Value} {q : Nat}
theorem vl_idxK {t e : TypeId} {x y : Operand} {k : IntKind} {j : Int} {sz : Nat} (hx : evalF f x = v) (hy : evalF f y = .int k j) (hu : P.underlying t = some (.slice e)) (hs : P.cellsOf e = sz) (hp : Nat.blt 0 sz = true) (hc : Spt v q) (h0 : 0 ≤ j) (h1 : j < (q : Int)) :
    Val P ⟨some d, .indexAddr t x y, ty, pos, af, gd⟩ f L (elt v (j.toNat * sz + 0)) := fun F w s => by
  obtain ⟨m, rfl⟩ := Int.eq_ofNat_of_zero_le h0
  obtain ⟨a, c, rfl⟩ := hc
  have hp := Nat.le_of_ble_eq_true hp
  have h1' : m < q := by omega
  have h1'' : (m : Int) < (q : Int) := by omega
  simp [execOp, hx, hy, Instr.indexAt, run_underlying hu, asIntOf, h1', run_sizeOf' w hs hp, elt]
theorem vl_fieldK {s : TypeId} {x : Operand} {b o fi off : Nat} (hx : evalF f x = elt v (b + o)) (hc : Spt v q) (hf : fieldOff P s fi = some off) : Val P ⟨some d, .fieldAddr s x fi, ty, pos, af, gd⟩ f L (elt v (b + (o + off))) :=
  vl_fieldE hx (by obtain ⟨a, c, h⟩ := hc; exact ⟨a, q, c, h⟩) hf
theorem vl_idxEK {t e : TypeId} {x y : Operand} {k : IntKind} {i sz o m es : Nat} {j : Int} (hx : evalF f x = elt v (i * sz + o)) (hy : evalF f y = .int k j) (hu : P.underlying t = some (.array m e)) (hs : P.cellsOf e = es) (hp : Nat.blt 0 es = true) (hc : Spt v q)
    (h0 : 0 ≤ j) (h1 : j < (m : Int)) : Val P ⟨some d, .indexAddr t x y, ty, pos, af, gd⟩ f L (elt v (i * sz + (o + j.toNat * es))) := fun F w s => by
  obtain ⟨a, c, rfl⟩ := hc
  simp [execOp, hx, hy, elt, Instr.indexAt, run_underlying hu, asIntOf, Instr.sureAddr, h0, h1, run_sizeOf' w hs (Nat.le_of_ble_eq_true hp), addr_add2, Nat.add_assoc]
theorem know_spt {α : Type} [Rep α] {c : Code} {xs : List α} (hr : RdT L v xs) (h0 : 0 < xs.length) (h : Spt v xs.length → Ex P n c Q f L) : Ex P n c Q f L := Ex.know (fun w F s => by
  obtain ⟨hl, a, c, e, hk, hm, hn, hcell⟩ := hr w F s
  cases a with
  | none => have := hn rfl; omega
  | some ad => exact ⟨ad, c, e⟩) h
end
section
variable {P : Program} {n : Nat} {ops : Array Oper} {Q : Post} {f : Nat → Value} {L : List Assn} {rest : List Oper} {ty : TypeId} {pos : String} {af : Array Edge} {α : Type} [Rep α] {xs : List α}
/-- One cell of a thing of a row of one's own is written. -/
theorem st_storeR1 (r : Nat) {t e : TypeId} {x y : Operand} {v u : Value} {i o sz : Nat} {a : α} {L' : List Assn} (hx : evalF f x = elt v (i * sz + o)) (hy : evalF f y = u) (h1 : u.oneCell' = true) (hi : L[r]? = some (RowT v e xs)) (hm : P.cellsOf t = 1) (hsz : Rep.sz α = sz) (hj : i < xs.length) (ho : o < sz)
    (ha : Rep.cells a = (Rep.cells (xs[i]'hj)).set o u) (hL : L.set r (RowT v e (xs.set i a)) = L') (h : ExL P n ops rest Q f L') : ExL P n ops (⟨none, .store t x y, ty, pos, af, none⟩ :: rest) Q f L := by
  subst hsz; subst hL; subst hy
  refine ExL.eff rfl rfl (R := fun _ L2 => L2 = L.set r (RowT v e (xs.set i a))) (fun F w s => ?_) (fun v L2 e => by subst e; exact h)
  have hb : (i + 1) * Rep.sz α ≤ xs.length * Rep.sz α := Nat.mul_le_mul_right _ (by omega)
  rw [Nat.succ_mul] at hb
  have hcl := cellsOf_len xs
  obtain ⟨g, w', ⟨c, hv⟩, hrun, hre, hs2⟩ := row_write (P := P) (w := w) (o := i * Rep.sz α + o) (us := [evalF f y]) (xs' := xs.set i a) hi (by simp only [List.length_cons, List.length_nil]; omega) (by simp) (by simp [h1]) (by
    rw [← cellsOf_set (u := evalF f y) hj ho ha, List.set_eq_take_append_cons_drop, if_pos (by omega)]
    simp) (by simp) s
  refine ⟨_, w', _, .inr ⟨?_, rfl⟩, hre, hs2, rfl⟩
  subst hv
  simp only [elt, addr_add, Nat.zero_add] at hx
  have hc1 := run_sizeOf' w hm (Nat.succ_pos 0)
  have hcs : (evalF f y).cells = #[evalF f y] := by
    revert h1
    generalize evalF f y = u
    intro h1
    cases u <;> simp_all [Value.oneCell', Value.cells]
  simp [execOp, hx, Instr.storeAt, Instr.sureAddr, storeVar, hcs, hc1, hrun]
end
end Go.Proofs.Ytcclbplccnaonaa
