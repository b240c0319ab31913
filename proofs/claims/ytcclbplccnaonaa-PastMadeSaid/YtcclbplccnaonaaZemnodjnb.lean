/- Several texts, one behind the other; each says in its head what it proves. No condition. -/
import Derived.Test.YtcclbplccnaonaaZfhjgcdef
import Derived.Test.YtcclbplccnaonaaZlodhjkll
import Derived.Test.YtcclbplccnaonaaZhhgljcbd
import Derived.Test.YtcclbplccnaonaaZlccmlldd
import Derived.Test.YtcclbplccnaonaaZegefllce
/- What may be done is short. No condition. -/
namespace Go.Proofs.Ytcclbplccnaonaa
open Go.RowKit
set_option linter.unusedSimpArgs false
set_option linter.unusedVariables false
theorem err_str {e : Ed} (h : e.err = 0) : e.key.length ≤ 8 ∧ e.value.length ≤ 12 := by
  unfold Ed.err at h
  split at h
  · cases h
  · split at h
    · rename_i h2
      exact absurd h h2
    · rename_i h2
      have h2 : keyE e.key = 0 := Classical.not_not.1 h2
      have hk : e.key.length ≤ 8 := by
        unfold keyE at h2
        split at h2
        · rename_i h3; exact h3.2.1
        · cases h2
      refine ⟨hk, ?_⟩
      split at h
      · split at h
        · cases h
        · split at h
          · cases h
          · rename_i h4
            have h4 := Classical.not_not.1 h4
            rw [h4]; simp
      · split at h
        · rename_i h4; exact absurd h h4
        · unfold valueE at h
          split at h
          · rename_i h5; exact h5.2
          · cases h
end Go.Proofs.Ytcclbplccnaonaa
/- kithlaw08: the document's example; a past that was made; walked. No condition. -/
namespace Go.Proofs.Ytcclbplccnaonaa
open Go.RowKit
set_option linter.unusedSimpArgs false
set_option linter.unusedVariables false
set_option maxRecDepth 20000
def one8 : Ev := ⟨0, 1, ⟨0, 0, 0, 0, 0⟩, 1, ⟨1, [99, 121], 0, []⟩⟩
theorem has_zero (r n : Int) : (⟨0, 0, 0, 0, 0⟩ : Clk).has r n = false := Clk.has_f fun ⟨_, _, h2, h3⟩ => by
  have := zero_get r.toNat
  unfold Clk.zero at this
  omega
theorem one8_good : GoodP [one8] := by
  have hno : ∀ r n, one8.c.has r n = false := fun r n => has_zero r n
  refine ⟨⟨fun e he => ?_, by simp [Dst], fun e he r n hh => ?_, fun e he => ?_⟩, ?_⟩
  · simp only [List.mem_singleton] at he
    subst he
    refine ⟨by decide, by decide, by decide, fun i hi => ?_, by decide, by decide⟩
    match i, hi with
    | 0, _ => decide
    | 1, _ => decide
    | 2, _ => decide
    | 3, _ => decide
    | 4, _ => decide
  · simp only [List.mem_singleton] at he
    subst he
    rw [hno] at hh; cases hh
  · simp only [List.mem_singleton] at he
    subst he
    exact ⟨fun a _ h => (by rw [hno] at h; cases h), .inl ⟨rfl, fun a _ => hno _ _⟩⟩
  · exact OrdQ.nil.snoc fun r n hh => by rw [hno] at hh; cases hh
theorem p_str {w : List Ev} (h : RightQ w) : ∀ e ∈ w, e.ed.key.length ≤ 9223372036854775807 ∧ e.ed.value.length ≤ 9223372036854775807 := fun e he => by
  have := err_str (h.may e he).ed
  omega
theorem p_h64 {w : List Ev} (h : RightQ w) : ∀ e ∈ w, I64 e.h := fun e he => by
  have := (h.may e he).h
  unfold I64
  omega
theorem p_n64 {w : List Ev} (h : RightQ w) : ∀ e ∈ w, I64 e.n := fun e he => by
  have := (h.may e he).n
  unfold I64
  omega
/-- A past, made of 40 choices at most. -/
theorem made40 {l : List Ch} (hok : ∀ c ∈ l, c.Ok) : ∃ l2, l2 = l.take 40 ∧ l2.length ≤ 40 ∧ (∀ c ∈ l2, c.Ok) ∧ ∃ w, w = makeP l2 ∧ w.length ≤ 40 ∧ GoodP w := by
  have hl2l : (l.take 40).length ≤ 40 := by rw [List.length_take]; omega
  have hl2o : ∀ c ∈ l.take 40, c.Ok := fun c hc => hok c (List.mem_of_mem_take hc)
  have hmk := makeS_ok _ hl2o
  refine ⟨_, rfl, hl2l, hl2o, _, rfl, ?_, makeP_good _ (by omega) hl2o⟩
  have := hmk.len; unfold makeP; omega
set_option maxRecDepth 20000 attribute [local irreducible] Ex ExL Fn thn inb rnd fin meet Tab Mix mxEnd Val Sats RdT Rd RowT Row Blk Sub Fac ResV RVal Evs subs subs3 Hid Capd
theorem right_yes (v0 : Value) (l : List Ev) (M : List Assn) (hr : RdT M v0 l) (hl : l.length ≤ 1000000) (h : RightQ l) : Fn Try.prog 14 #[v0] M fun v L' => v = .bool true ∧ L' = M := by
  refine (right_F v0 l M hr hl (p_h64 h) (p_str h)).mono ?_
  rintro v L' ⟨⟨b, hb, rfl⟩, rfl⟩
  exact ⟨by rw [hb.2 (RightQ.iff.2 h)], rfl⟩
theorem right_no (v0 : Value) (l : List Ev) (M : List Assn) (hr : RdT M v0 l) (hl : l.length ≤ 1000000) (h : ¬ RightQ l) (hh : ∀ e ∈ l, I64 e.h) (hs : ∀ e ∈ l, e.ed.key.length ≤ 9223372036854775807 ∧ e.ed.value.length ≤ 9223372036854775807) : Fn Try.prog 14 #[v0] M fun v L' => v = .bool false ∧ L' = M := by
  refine (right_F v0 l M hr hl hh hs).mono ?_
  rintro v L' ⟨⟨b, hb, rfl⟩, rfl⟩
  cases b
  · exact ⟨rfl, rfl⟩
  · exact absurd (RightQ.iff.1 (hb.1 rfl)) h
theorem ordered_yes (v0 : Value) (l : List Ev) (M : List Assn) (hr : RdT M v0 l) (hl : l.length ≤ 1000000) (h : OrdQ l) : Fn Try.prog 15 #[v0] M fun v L' => v = .bool true ∧ L' = M := by
  refine (ordered_F v0 l M hr hl).mono ?_
  rintro v L' ⟨⟨b, hb, rfl⟩, rfl⟩
  exact ⟨by rw [hb.2 (OrdQ.iff.2 h)], rfl⟩
theorem height_nil (c : Clk) (M : List Assn) : Fn Try.prog 18 #[.slice none 0 0, c.val] M fun v L' => v = .int .i64 1 ∧ L' = M := by
  have h := pheight_F (.slice none 0 0) [] c M (RdT.nil _) (by simp) (by simp)
  exact h
set_option maxHeartbeats 4000000 in
theorem shown8_fn (L : List Assn) : Fn Try.prog 10 #[] L fun v L' => v = .bool true ∧ L' = L := by
  refine Fn.of_ex Try.func10 rfl Try.ntmps10 rfl ?_
  (repeat' (first | refine ExL.val rJ rJ rJ rV ?_ | (first | refine Ex.seq ?_ | refine Ex.region ?_ | refine ExL.nil ?_ | refine thn_n ?_ | refine Ex.cond_t rJ ?_ | refine Ex.cond_f rJ ?_ | refine Ex.skip ?_ | refine Ex.block ?_ | refine Ex.exit ?_ | refine Ex.ret ?_ | refine thn_exit ?_ | refine thn_ret ?_ | refine inb_n ?_ | refine inb_hit rJ ?_ | refine inb_miss rJ ?_ | refine inb_ret ?_ | refine rnd_exit ?_ | refine rnd_ret ?_ | refine meet_ret ?_ | refine meet_exit ?_) | (apply exlGuard; first | refine ExL.gskip rJ rJ rJ rJ rJ rJ ?_ | refine ExL.gtake rJ rJ rJ rJ ?_ | refine ExL.gskipU rJ rJ rJ rJ ?_ | (refine ExL.gsplit rJ rJ rJ (fun h => ?_) (fun h => ?_) <;> try (exfalso; omega))) | (first | refine st_new_ rJ rE (fun g => ?_) | refine st_boxA rJ rJ (fun g => ?_) | refine st_box1 rJ rE rN (fun g => ?_) | (apply exlStore; first | refine st_store1_ _ rJ rK rE rN rJ rJ rE rE ?_ | refine st_storeW_ _ rJ rK rJ rC rJ rJ rJ rE ?_ | refine st_storeR _ rJ rK rJ rE rJ rJ rE ?_ | refine st_storeA_ _ rJ rK rJ rC rJ rJ rJ rE rE ?_ | refine st_storeB _ rJ rJ rO rO rK rJ rO ?_ | refine st_storeG _ rJ rK rE rN rJ rO (fun cs hcs => ?_)) | refine st_slice0 rJ rJ rJ rJ (fun g => ?_) | refine st_slice1T rJ rJ rJ rJ (fun g => ?_) | refine st_makeT rJ rJ rJ rJ rE rJ rO rO (fun v o => ?_) | (apply exlCopy; first | refine st_copyW _ rJ rE rK rE rD rJ rE rJ (fun zs hzs => ?_) | refine st_copyS _ rJ rJ rK rE rD rJ rE rJ rO rO (fun zs hzs => ?_)) | refine st_sliceB rJ rJ rJ rJ rJ rJ rJ rL rE rE rJ (fun g => ?_) | refine st_slice1I rJ rJ rJ rJ rJ rJ (fun g => ?_) | refine st_slice1B rJ rJ rJ rJ rJ rJ rO rO (fun g => ?_) | refine st_slice1S rJ rJ rJ rJ rJ rJ (fun g => ?_) | refine st_slice2B rJ rJ rJ rJ rJ rJ rJ rO rO rO rO (fun g => ?_) | (apply exlConv; first | refine st_bytes rJ rJ rJ rJ rJ rO (fun v o => ?_) | refine st_mark _ rJ rJ rK rJ rJ rJ ?_) | refine st_clear _ (0 : UInt8) rJ rK rJ rJ rJ rJ rJ rO ?_ | refine st_clearT _ rJ rK rO rJ rJ rO rE ?_ | (apply exlAppend; first | refine st_app0 rJ rJ rE rD rJ rE rJ rE rJ rJ rJ rO (fun v o => ?_) | refine st_app _ rJ rE rK rE rD rJ rE rJ rE rJ rJ rJ rO (fun v o => ?_) | refine st_shift _ rJ rJ rJ rK rO rJ rJ rJ rO rO rE ?_)) | (refine Ex.cond_d rJ (fun h => ?_) (fun h => ?_) <;> try (exfalso; omega))))
  refine st_slice1T (a := one8) rJ rJ rJ rJ (fun g => ?_)
  (repeat' (first | refine ExL.val rJ rJ rJ rV ?_ | (first | refine Ex.seq ?_ | refine Ex.region ?_ | refine ExL.nil ?_ | refine thn_n ?_ | refine Ex.cond_t rJ ?_ | refine Ex.cond_f rJ ?_ | refine Ex.skip ?_ | refine Ex.block ?_ | refine Ex.exit ?_ | refine Ex.ret ?_ | refine thn_exit ?_ | refine thn_ret ?_ | refine inb_n ?_ | refine inb_hit rJ ?_ | refine inb_miss rJ ?_ | refine inb_ret ?_ | refine rnd_exit ?_ | refine rnd_ret ?_ | refine meet_ret ?_ | refine meet_exit ?_) | (apply exlGuard; first | refine ExL.gskip rJ rJ rJ rJ rJ rJ ?_ | refine ExL.gtake rJ rJ rJ rJ ?_ | refine ExL.gskipU rJ rJ rJ rJ ?_ | (refine ExL.gsplit rJ rJ rJ (fun h => ?_) (fun h => ?_) <;> try (exfalso; omega))) | (first | refine st_new_ rJ rE (fun g => ?_) | refine st_boxA rJ rJ (fun g => ?_) | refine st_box1 rJ rE rN (fun g => ?_) | (apply exlStore; first | refine st_store1_ _ rJ rK rE rN rJ rJ rE rE ?_ | refine st_storeW_ _ rJ rK rJ rC rJ rJ rJ rE ?_ | refine st_storeR _ rJ rK rJ rE rJ rJ rE ?_ | refine st_storeA_ _ rJ rK rJ rC rJ rJ rJ rE rE ?_ | refine st_storeB _ rJ rJ rO rO rK rJ rO ?_ | refine st_storeG _ rJ rK rE rN rJ rO (fun cs hcs => ?_)) | refine st_slice0 rJ rJ rJ rJ (fun g => ?_) | refine st_slice1T rJ rJ rJ rJ (fun g => ?_) | refine st_makeT rJ rJ rJ rJ rE rJ rO rO (fun v o => ?_) | (apply exlCopy; first | refine st_copyW _ rJ rE rK rE rD rJ rE rJ (fun zs hzs => ?_) | refine st_copyS _ rJ rJ rK rE rD rJ rE rJ rO rO (fun zs hzs => ?_)) | refine st_sliceB rJ rJ rJ rJ rJ rJ rJ rL rE rE rJ (fun g => ?_) | refine st_slice1I rJ rJ rJ rJ rJ rJ (fun g => ?_) | refine st_slice1B rJ rJ rJ rJ rJ rJ rO rO (fun g => ?_) | refine st_slice1S rJ rJ rJ rJ rJ rJ (fun g => ?_) | refine st_slice2B rJ rJ rJ rJ rJ rJ rJ rO rO rO rO (fun g => ?_) | (apply exlConv; first | refine st_bytes rJ rJ rJ rJ rJ rO (fun v o => ?_) | refine st_mark _ rJ rJ rK rJ rJ rJ ?_) | refine st_clear _ (0 : UInt8) rJ rK rJ rJ rJ rJ rJ rO ?_ | refine st_clearT _ rJ rK rO rJ rJ rO rE ?_ | (apply exlAppend; first | refine st_app0 rJ rJ rE rD rJ rE rJ rE rJ rJ rJ rO (fun v o => ?_) | refine st_app _ rJ rE rK rE rD rJ rE rJ rE rJ rJ rJ rO (fun v o => ?_) | refine st_shift _ rJ rJ rJ rK rO rJ rJ rJ rO rO rE ?_)) | (refine Ex.cond_d rJ (fun h => ?_) (fun h => ?_) <;> try (exfalso; omega))))
  refine st_callIs [] rJ Try.call14 rJ rJ (right_yes _ [one8] _ rD (by simp) one8_good.right) ?_
  rintro _ _ ⟨rfl, rfl⟩
  (repeat' (first | refine ExL.val rJ rJ rJ rV ?_ | (first | refine Ex.seq ?_ | refine Ex.region ?_ | refine ExL.nil ?_ | refine thn_n ?_ | refine Ex.cond_t rJ ?_ | refine Ex.cond_f rJ ?_ | refine Ex.skip ?_ | refine Ex.block ?_ | refine Ex.exit ?_ | refine Ex.ret ?_ | refine thn_exit ?_ | refine thn_ret ?_ | refine inb_n ?_ | refine inb_hit rJ ?_ | refine inb_miss rJ ?_ | refine inb_ret ?_ | refine rnd_exit ?_ | refine rnd_ret ?_ | refine meet_ret ?_ | refine meet_exit ?_) | (apply exlGuard; first | refine ExL.gskip rJ rJ rJ rJ rJ rJ ?_ | refine ExL.gtake rJ rJ rJ rJ ?_ | refine ExL.gskipU rJ rJ rJ rJ ?_ | (refine ExL.gsplit rJ rJ rJ (fun h => ?_) (fun h => ?_) <;> try (exfalso; omega))) | (first | refine st_new_ rJ rE (fun g => ?_) | refine st_boxA rJ rJ (fun g => ?_) | refine st_box1 rJ rE rN (fun g => ?_) | (apply exlStore; first | refine st_store1_ _ rJ rK rE rN rJ rJ rE rE ?_ | refine st_storeW_ _ rJ rK rJ rC rJ rJ rJ rE ?_ | refine st_storeR _ rJ rK rJ rE rJ rJ rE ?_ | refine st_storeA_ _ rJ rK rJ rC rJ rJ rJ rE rE ?_ | refine st_storeB _ rJ rJ rO rO rK rJ rO ?_ | refine st_storeG _ rJ rK rE rN rJ rO (fun cs hcs => ?_)) | refine st_slice0 rJ rJ rJ rJ (fun g => ?_) | refine st_slice1T rJ rJ rJ rJ (fun g => ?_) | refine st_makeT rJ rJ rJ rJ rE rJ rO rO (fun v o => ?_) | (apply exlCopy; first | refine st_copyW _ rJ rE rK rE rD rJ rE rJ (fun zs hzs => ?_) | refine st_copyS _ rJ rJ rK rE rD rJ rE rJ rO rO (fun zs hzs => ?_)) | refine st_sliceB rJ rJ rJ rJ rJ rJ rJ rL rE rE rJ (fun g => ?_) | refine st_slice1I rJ rJ rJ rJ rJ rJ (fun g => ?_) | refine st_slice1B rJ rJ rJ rJ rJ rJ rO rO (fun g => ?_) | refine st_slice1S rJ rJ rJ rJ rJ rJ (fun g => ?_) | refine st_slice2B rJ rJ rJ rJ rJ rJ rJ rO rO rO rO (fun g => ?_) | (apply exlConv; first | refine st_bytes rJ rJ rJ rJ rJ rO (fun v o => ?_) | refine st_mark _ rJ rJ rK rJ rJ rJ ?_) | refine st_clear _ (0 : UInt8) rJ rK rJ rJ rJ rJ rJ rO ?_ | refine st_clearT _ rJ rK rO rJ rJ rO rE ?_ | (apply exlAppend; first | refine st_app0 rJ rJ rE rD rJ rE rJ rE rJ rJ rJ rO (fun v o => ?_) | refine st_app _ rJ rE rK rE rD rJ rE rJ rE rJ rJ rJ rO (fun v o => ?_) | refine st_shift _ rJ rJ rJ rK rO rJ rJ rJ rO rO rE ?_)) | (refine Ex.cond_d rJ (fun h => ?_) (fun h => ?_) <;> try (exfalso; omega))))
  refine st_callIs [] rJ Try.call15 rJ rJ (ordered_yes _ [one8] _ rD (by simp) one8_good.ord) ?_
  rintro _ _ ⟨rfl, rfl⟩
  (repeat' (first | refine ExL.val rJ rJ rJ rV ?_ | (first | refine Ex.seq ?_ | refine Ex.region ?_ | refine ExL.nil ?_ | refine thn_n ?_ | refine Ex.cond_t rJ ?_ | refine Ex.cond_f rJ ?_ | refine Ex.skip ?_ | refine Ex.block ?_ | refine Ex.exit ?_ | refine Ex.ret ?_ | refine thn_exit ?_ | refine thn_ret ?_ | refine inb_n ?_ | refine inb_hit rJ ?_ | refine inb_miss rJ ?_ | refine inb_ret ?_ | refine rnd_exit ?_ | refine rnd_ret ?_ | refine meet_ret ?_ | refine meet_exit ?_) | (apply exlGuard; first | refine ExL.gskip rJ rJ rJ rJ rJ rJ ?_ | refine ExL.gtake rJ rJ rJ rJ ?_ | refine ExL.gskipU rJ rJ rJ rJ ?_ | (refine ExL.gsplit rJ rJ rJ (fun h => ?_) (fun h => ?_) <;> try (exfalso; omega))) | (first | refine st_new_ rJ rE (fun g => ?_) | refine st_boxA rJ rJ (fun g => ?_) | refine st_box1 rJ rE rN (fun g => ?_) | (apply exlStore; first | refine st_store1_ _ rJ rK rE rN rJ rJ rE rE ?_ | refine st_storeW_ _ rJ rK rJ rC rJ rJ rJ rE ?_ | refine st_storeR _ rJ rK rJ rE rJ rJ rE ?_ | refine st_storeA_ _ rJ rK rJ rC rJ rJ rJ rE rE ?_ | refine st_storeB _ rJ rJ rO rO rK rJ rO ?_ | refine st_storeG _ rJ rK rE rN rJ rO (fun cs hcs => ?_)) | refine st_slice0 rJ rJ rJ rJ (fun g => ?_) | refine st_slice1T rJ rJ rJ rJ (fun g => ?_) | refine st_makeT rJ rJ rJ rJ rE rJ rO rO (fun v o => ?_) | (apply exlCopy; first | refine st_copyW _ rJ rE rK rE rD rJ rE rJ (fun zs hzs => ?_) | refine st_copyS _ rJ rJ rK rE rD rJ rE rJ rO rO (fun zs hzs => ?_)) | refine st_sliceB rJ rJ rJ rJ rJ rJ rJ rL rE rE rJ (fun g => ?_) | refine st_slice1I rJ rJ rJ rJ rJ rJ (fun g => ?_) | refine st_slice1B rJ rJ rJ rJ rJ rJ rO rO (fun g => ?_) | refine st_slice1S rJ rJ rJ rJ rJ rJ (fun g => ?_) | refine st_slice2B rJ rJ rJ rJ rJ rJ rJ rO rO rO rO (fun g => ?_) | (apply exlConv; first | refine st_bytes rJ rJ rJ rJ rJ rO (fun v o => ?_) | refine st_mark _ rJ rJ rK rJ rJ rJ ?_) | refine st_clear _ (0 : UInt8) rJ rK rJ rJ rJ rJ rJ rO ?_ | refine st_clearT _ rJ rK rO rJ rJ rO rE ?_ | (apply exlAppend; first | refine st_app0 rJ rJ rE rD rJ rE rJ rE rJ rJ rJ rO (fun v o => ?_) | refine st_app _ rJ rE rK rE rD rJ rE rJ rE rJ rJ rJ rO (fun v o => ?_) | refine st_shift _ rJ rJ rJ rK rO rJ rJ rJ rO rO rE ?_)) | (refine Ex.cond_d rJ (fun h => ?_) (fun h => ?_) <;> try (exfalso; omega))))
  refine st_callIs [] rJ Try.call14 rJ rJ (right_yes _ [] _ (RdT.nil _) (by simp) RightQ.nil) ?_
  rintro _ _ ⟨rfl, rfl⟩
  (repeat' (first | refine ExL.val rJ rJ rJ rV ?_ | (first | refine Ex.seq ?_ | refine Ex.region ?_ | refine ExL.nil ?_ | refine thn_n ?_ | refine Ex.cond_t rJ ?_ | refine Ex.cond_f rJ ?_ | refine Ex.skip ?_ | refine Ex.block ?_ | refine Ex.exit ?_ | refine Ex.ret ?_ | refine thn_exit ?_ | refine thn_ret ?_ | refine inb_n ?_ | refine inb_hit rJ ?_ | refine inb_miss rJ ?_ | refine inb_ret ?_ | refine rnd_exit ?_ | refine rnd_ret ?_ | refine meet_ret ?_ | refine meet_exit ?_) | (apply exlGuard; first | refine ExL.gskip rJ rJ rJ rJ rJ rJ ?_ | refine ExL.gtake rJ rJ rJ rJ ?_ | refine ExL.gskipU rJ rJ rJ rJ ?_ | (refine ExL.gsplit rJ rJ rJ (fun h => ?_) (fun h => ?_) <;> try (exfalso; omega))) | (first | refine st_new_ rJ rE (fun g => ?_) | refine st_boxA rJ rJ (fun g => ?_) | refine st_box1 rJ rE rN (fun g => ?_) | (apply exlStore; first | refine st_store1_ _ rJ rK rE rN rJ rJ rE rE ?_ | refine st_storeW_ _ rJ rK rJ rC rJ rJ rJ rE ?_ | refine st_storeR _ rJ rK rJ rE rJ rJ rE ?_ | refine st_storeA_ _ rJ rK rJ rC rJ rJ rJ rE rE ?_ | refine st_storeB _ rJ rJ rO rO rK rJ rO ?_ | refine st_storeG _ rJ rK rE rN rJ rO (fun cs hcs => ?_)) | refine st_slice0 rJ rJ rJ rJ (fun g => ?_) | refine st_slice1T rJ rJ rJ rJ (fun g => ?_) | refine st_makeT rJ rJ rJ rJ rE rJ rO rO (fun v o => ?_) | (apply exlCopy; first | refine st_copyW _ rJ rE rK rE rD rJ rE rJ (fun zs hzs => ?_) | refine st_copyS _ rJ rJ rK rE rD rJ rE rJ rO rO (fun zs hzs => ?_)) | refine st_sliceB rJ rJ rJ rJ rJ rJ rJ rL rE rE rJ (fun g => ?_) | refine st_slice1I rJ rJ rJ rJ rJ rJ (fun g => ?_) | refine st_slice1B rJ rJ rJ rJ rJ rJ rO rO (fun g => ?_) | refine st_slice1S rJ rJ rJ rJ rJ rJ (fun g => ?_) | refine st_slice2B rJ rJ rJ rJ rJ rJ rJ rO rO rO rO (fun g => ?_) | (apply exlConv; first | refine st_bytes rJ rJ rJ rJ rJ rO (fun v o => ?_) | refine st_mark _ rJ rJ rK rJ rJ rJ ?_) | refine st_clear _ (0 : UInt8) rJ rK rJ rJ rJ rJ rJ rO ?_ | refine st_clearT _ rJ rK rO rJ rJ rO rE ?_ | (apply exlAppend; first | refine st_app0 rJ rJ rE rD rJ rE rJ rE rJ rJ rJ rO (fun v o => ?_) | refine st_app _ rJ rE rK rE rD rJ rE rJ rE rJ rJ rJ rO (fun v o => ?_) | refine st_shift _ rJ rJ rJ rK rO rJ rJ rJ rO rO rE ?_)) | (refine Ex.cond_d rJ (fun h => ?_) (fun h => ?_) <;> try (exfalso; omega))))
  refine st_callIs [] rJ Try.call15 rJ rJ (ordered_yes _ [] _ (RdT.nil _) (by simp) OrdQ.nil) ?_
  rintro _ _ ⟨rfl, rfl⟩
  (repeat' (first | refine ExL.val rJ rJ rJ rV ?_ | (first | refine Ex.seq ?_ | refine Ex.region ?_ | refine ExL.nil ?_ | refine thn_n ?_ | refine Ex.cond_t rJ ?_ | refine Ex.cond_f rJ ?_ | refine Ex.skip ?_ | refine Ex.block ?_ | refine Ex.exit ?_ | refine Ex.ret ?_ | refine thn_exit ?_ | refine thn_ret ?_ | refine inb_n ?_ | refine inb_hit rJ ?_ | refine inb_miss rJ ?_ | refine inb_ret ?_ | refine rnd_exit ?_ | refine rnd_ret ?_ | refine meet_ret ?_ | refine meet_exit ?_) | (apply exlGuard; first | refine ExL.gskip rJ rJ rJ rJ rJ rJ ?_ | refine ExL.gtake rJ rJ rJ rJ ?_ | refine ExL.gskipU rJ rJ rJ rJ ?_ | (refine ExL.gsplit rJ rJ rJ (fun h => ?_) (fun h => ?_) <;> try (exfalso; omega))) | (first | refine st_new_ rJ rE (fun g => ?_) | refine st_boxA rJ rJ (fun g => ?_) | refine st_box1 rJ rE rN (fun g => ?_) | (apply exlStore; first | refine st_store1_ _ rJ rK rE rN rJ rJ rE rE ?_ | refine st_storeW_ _ rJ rK rJ rC rJ rJ rJ rE ?_ | refine st_storeR _ rJ rK rJ rE rJ rJ rE ?_ | refine st_storeA_ _ rJ rK rJ rC rJ rJ rJ rE rE ?_ | refine st_storeB _ rJ rJ rO rO rK rJ rO ?_ | refine st_storeG _ rJ rK rE rN rJ rO (fun cs hcs => ?_)) | refine st_slice0 rJ rJ rJ rJ (fun g => ?_) | refine st_slice1T rJ rJ rJ rJ (fun g => ?_) | refine st_makeT rJ rJ rJ rJ rE rJ rO rO (fun v o => ?_) | (apply exlCopy; first | refine st_copyW _ rJ rE rK rE rD rJ rE rJ (fun zs hzs => ?_) | refine st_copyS _ rJ rJ rK rE rD rJ rE rJ rO rO (fun zs hzs => ?_)) | refine st_sliceB rJ rJ rJ rJ rJ rJ rJ rL rE rE rJ (fun g => ?_) | refine st_slice1I rJ rJ rJ rJ rJ rJ (fun g => ?_) | refine st_slice1B rJ rJ rJ rJ rJ rJ rO rO (fun g => ?_) | refine st_slice1S rJ rJ rJ rJ rJ rJ (fun g => ?_) | refine st_slice2B rJ rJ rJ rJ rJ rJ rJ rO rO rO rO (fun g => ?_) | (apply exlConv; first | refine st_bytes rJ rJ rJ rJ rJ rO (fun v o => ?_) | refine st_mark _ rJ rJ rK rJ rJ rJ ?_) | refine st_clear _ (0 : UInt8) rJ rK rJ rJ rJ rJ rJ rO ?_ | refine st_clearT _ rJ rK rO rJ rJ rO rE ?_ | (apply exlAppend; first | refine st_app0 rJ rJ rE rD rJ rE rJ rE rJ rJ rJ rO (fun v o => ?_) | refine st_app _ rJ rE rK rE rD rJ rE rJ rE rJ rJ rJ rO (fun v o => ?_) | refine st_shift _ rJ rJ rJ rK rO rJ rJ rJ rO rO rE ?_)) | (refine Ex.cond_d rJ (fun h => ?_) (fun h => ?_) <;> try (exfalso; omega))))
  refine st_callIs [] rJ Try.call18 rJ rJ (height_nil ⟨0, 0, 0, 0, 0⟩ _) ?_
  rintro _ _ ⟨rfl, rfl⟩
  (repeat' (first | refine ExL.val rJ rJ rJ rV ?_ | (first | refine Ex.seq ?_ | refine Ex.region ?_ | refine ExL.nil ?_ | refine thn_n ?_ | refine Ex.cond_t rJ ?_ | refine Ex.cond_f rJ ?_ | refine Ex.skip ?_ | refine Ex.block ?_ | refine Ex.exit ?_ | refine Ex.ret ?_ | refine thn_exit ?_ | refine thn_ret ?_ | refine inb_n ?_ | refine inb_hit rJ ?_ | refine inb_miss rJ ?_ | refine inb_ret ?_ | refine rnd_exit ?_ | refine rnd_ret ?_ | refine meet_ret ?_ | refine meet_exit ?_) | (apply exlGuard; first | refine ExL.gskip rJ rJ rJ rJ rJ rJ ?_ | refine ExL.gtake rJ rJ rJ rJ ?_ | refine ExL.gskipU rJ rJ rJ rJ ?_ | (refine ExL.gsplit rJ rJ rJ (fun h => ?_) (fun h => ?_) <;> try (exfalso; omega))) | (first | refine st_new_ rJ rE (fun g => ?_) | refine st_boxA rJ rJ (fun g => ?_) | refine st_box1 rJ rE rN (fun g => ?_) | (apply exlStore; first | refine st_store1_ _ rJ rK rE rN rJ rJ rE rE ?_ | refine st_storeW_ _ rJ rK rJ rC rJ rJ rJ rE ?_ | refine st_storeR _ rJ rK rJ rE rJ rJ rE ?_ | refine st_storeA_ _ rJ rK rJ rC rJ rJ rJ rE rE ?_ | refine st_storeB _ rJ rJ rO rO rK rJ rO ?_ | refine st_storeG _ rJ rK rE rN rJ rO (fun cs hcs => ?_)) | refine st_slice0 rJ rJ rJ rJ (fun g => ?_) | refine st_slice1T rJ rJ rJ rJ (fun g => ?_) | refine st_makeT rJ rJ rJ rJ rE rJ rO rO (fun v o => ?_) | (apply exlCopy; first | refine st_copyW _ rJ rE rK rE rD rJ rE rJ (fun zs hzs => ?_) | refine st_copyS _ rJ rJ rK rE rD rJ rE rJ rO rO (fun zs hzs => ?_)) | refine st_sliceB rJ rJ rJ rJ rJ rJ rJ rL rE rE rJ (fun g => ?_) | refine st_slice1I rJ rJ rJ rJ rJ rJ (fun g => ?_) | refine st_slice1B rJ rJ rJ rJ rJ rJ rO rO (fun g => ?_) | refine st_slice1S rJ rJ rJ rJ rJ rJ (fun g => ?_) | refine st_slice2B rJ rJ rJ rJ rJ rJ rJ rO rO rO rO (fun g => ?_) | (apply exlConv; first | refine st_bytes rJ rJ rJ rJ rJ rO (fun v o => ?_) | refine st_mark _ rJ rJ rK rJ rJ rJ ?_) | refine st_clear _ (0 : UInt8) rJ rK rJ rJ rJ rJ rJ rO ?_ | refine st_clearT _ rJ rK rO rJ rJ rO rE ?_ | (apply exlAppend; first | refine st_app0 rJ rJ rE rD rJ rE rJ rE rJ rJ rJ rO (fun v o => ?_) | refine st_app _ rJ rE rK rE rD rJ rE rJ rE rJ rJ rJ rO (fun v o => ?_) | refine st_shift _ rJ rJ rJ rK rO rJ rJ rJ rO rO rE ?_)) | (refine Ex.cond_d rJ (fun h => ?_) (fun h => ?_) <;> try (exfalso; omega))))
  (first | refine fin_ret rS ?_ | refine fin_norm rS ?_)
  exact ⟨_, rB, rfl, rfl⟩
theorem short8_F (v0 : Value) (l : List Ch) (M : List Assn) (hr : RdT M v0 l) : Fn Try.prog 12 #[v0] M fun v L' => RdT M v (l.take 40) ∧ L' = M := by
  refine Fn.of_ex Try.func12 rfl Try.ntmps12 rfl ?_
  (repeat' (first | refine ExL.val rJ rJ rJ rV ?_ | (first | refine Ex.seq ?_ | refine Ex.region ?_ | refine ExL.nil ?_ | refine thn_n ?_ | refine Ex.cond_t rJ ?_ | refine Ex.cond_f rJ ?_ | refine Ex.skip ?_ | refine Ex.block ?_ | refine Ex.exit ?_ | refine Ex.ret ?_ | refine thn_exit ?_ | refine thn_ret ?_ | refine inb_n ?_ | refine inb_hit rJ ?_ | refine inb_miss rJ ?_ | refine inb_ret ?_ | refine rnd_exit ?_ | refine rnd_ret ?_ | refine meet_ret ?_ | refine meet_exit ?_) | (apply exlGuard; first | refine ExL.gskip rJ rJ rJ rJ rJ rJ ?_ | refine ExL.gtake rJ rJ rJ rJ ?_ | refine ExL.gskipU rJ rJ rJ rJ ?_ | (refine ExL.gsplit rJ rJ rJ (fun h => ?_) (fun h => ?_) <;> try (exfalso; omega))) | (first | refine st_new_ rJ rE (fun g => ?_) | refine st_boxA rJ rJ (fun g => ?_) | refine st_box1 rJ rE rN (fun g => ?_) | (apply exlStore; first | refine st_store1_ _ rJ rK rE rN rJ rJ rE rE ?_ | refine st_storeW_ _ rJ rK rJ rC rJ rJ rJ rE ?_ | refine st_storeR _ rJ rK rJ rE rJ rJ rE ?_ | refine st_storeA_ _ rJ rK rJ rC rJ rJ rJ rE rE ?_ | refine st_storeB _ rJ rJ rO rO rK rJ rO ?_ | refine st_storeG _ rJ rK rE rN rJ rO (fun cs hcs => ?_)) | refine st_slice0 rJ rJ rJ rJ (fun g => ?_) | refine st_slice1T rJ rJ rJ rJ (fun g => ?_) | refine st_makeT rJ rJ rJ rJ rE rJ rO rO (fun v o => ?_) | (apply exlCopy; first | refine st_copyW _ rJ rE rK rE rD rJ rE rJ (fun zs hzs => ?_) | refine st_copyS _ rJ rJ rK rE rD rJ rE rJ rO rO (fun zs hzs => ?_)) | refine st_sliceB rJ rJ rJ rJ rJ rJ rJ rL rE rE rJ (fun g => ?_) | refine st_slice1I rJ rJ rJ rJ rJ rJ (fun g => ?_) | refine st_slice1B rJ rJ rJ rJ rJ rJ rO rO (fun g => ?_) | refine st_slice1S rJ rJ rJ rJ rJ rJ (fun g => ?_) | refine st_slice2B rJ rJ rJ rJ rJ rJ rJ rO rO rO rO (fun g => ?_) | (apply exlConv; first | refine st_bytes rJ rJ rJ rJ rJ rO (fun v o => ?_) | refine st_mark _ rJ rJ rK rJ rJ rJ ?_) | refine st_clear _ (0 : UInt8) rJ rK rJ rJ rJ rJ rJ rO ?_ | refine st_clearT _ rJ rK rO rJ rJ rO rE ?_ | (apply exlAppend; first | refine st_app0 rJ rJ rE rD rJ rE rJ rE rJ rJ rJ rO (fun v o => ?_) | refine st_app _ rJ rE rK rE rD rJ rE rJ rE rJ rJ rJ rO (fun v o => ?_) | refine st_shift _ rJ rJ rJ rK rO rJ rJ rJ rO rO rE ?_)) | (refine Ex.cond_d rJ (fun h => ?_) (fun h => ?_) <;> try (exfalso; omega))))
  (first | refine fin_ret rS ?_ | refine fin_norm rS ?_)
  refine ⟨_, rB, ?_, rfl⟩
  have h : l.take 40 = l.take (min (l.length : Int) 40).toNat := by
    by_cases hl : l.length ≤ 40
    · rw [List.take_of_length_le hl, List.take_of_length_le (by omega)]
    · congr 1; omega
  rw [h]
  exact rD
end Go.Proofs.Ytcclbplccnaonaa
/- Events of a past have different stamps. No condition. -/
namespace Go.Proofs.Ytcclbplccnaonaa
open Go.RowKit
set_option linter.unusedSimpArgs false
set_option linter.unusedVariables false
/-- No two of a past have one stamp. -/
theorem stamp_ne {w : List Ev} (hw : GoodP w) {a b : Ev} (ha : a ∈ w) (hb : b ∈ w) (hne : a ≠ b) : ¬ (a.h = b.h ∧ a.r = b.r) := by
  rintro ⟨hh, hr⟩
  have key : ∀ {a b : Ev}, a ∈ w → b ∈ w → a.h = b.h → a.r = b.r → ¬ a.n < b.n := by
    intro a b ha hb hh hr hlt
    have hya := hw.right.may a ha
    have hyb := hw.right.may b hb
    have h1 : b.c.has a.r a.n = true := (Clk.has_iff _ _ _).2 ⟨hya.r.1, hya.r.2, hya.n.1, by rw [hr, hyb.own]; omega⟩
    have := hw.right.lt hb ha h1
    omega
  have h1 := key ha hb hh hr
  have h2 := key hb ha hh.symm hr.symm
  refine hne (hw.right.dst.same ha hb ?_)
  simp only [Ev.mk_, Mk.mk.injEq]
  omega
theorem less_ne {w : List Ev} (hw : GoodP w) {a b : Ev} (ha : a ∈ w) (hb : b ∈ w) (hne : a ≠ b) : (decide (a.h < b.h ∨ (a.h = b.h ∧ a.r < b.r)) = decide (b.h < a.h ∨ (b.h = a.h ∧ b.r < a.r))) ↔ False := by
  have := stamp_ne hw ha hb hne
  simp only [iff_false]
  by_cases h1 : a.h < b.h ∨ (a.h = b.h ∧ a.r < b.r)
  · rw [decide_eq_true h1, decide_eq_false (by omega)]; simp
  · rw [decide_eq_false h1, decide_eq_true (by omega)]; simp
theorem not_both {w : List Ev} (hw : GoodP w) {a b : Ev} (ha : a ∈ w) (hb : b ∈ w) (h : b.c.has a.r a.n = true) : a.c.has b.r b.n = false := by
  cases hh : a.c.has b.r b.n
  · rfl
  · have h1 := hw.right.lt hb ha h
    have h2 := hw.right.lt ha hb hh
    omega
end Go.Proofs.Ytcclbplccnaonaa
/- A past in another order, in plain words. No condition. -/
namespace Go.Proofs.Ytcclbplccnaonaa
open Go.RowKit
set_option linter.unusedSimpArgs false
set_option linter.unusedVariables false
theorem first_not {w out : List Ev} : ∀ n, n ≤ w.length → (∀ j (h : j < w.length), j < n → w[j]'h ∈ out) ∨ ∃ k, ∃ h : k < w.length, w[k]'h ∉ out ∧ ∀ j (h : j < w.length), j < k → w[j]'h ∈ out
  | 0, _ => .inl fun j _ h => by omega
  | n + 1, hn => by
    rcases first_not (w := w) (out := out) n (by omega) with h | h
    · by_cases hm : w[n]'(by omega) ∈ out
      · refine .inl fun j hj hjn => ?_
        by_cases hjj : j = n
        · subst hjj; exact hm
        · exact h j hj (by omega)
      · exact .inr ⟨n, by omega, hm, h⟩
    · exact .inr h
/-- What spreading keeps. -/
structure Spr (w out left : List Ev) : Prop where
  dlv : Dlv w out
  perm : (out ++ left).Perm w
theorem Spr.out {w out left : List Ev} (hw : GoodP w) (h : Spr w out left) {x : Ev} (hx : x ∈ left) : x ∉ out := fun ho => by
  have hd : (out ++ left).Nodup := h.perm.nodup_iff.2 (hw.right.dst.imp fun h e => h (by rw [e]))
  exact (List.nodup_append.1 hd).2.2 x ho x hx rfl
theorem Spr.mem {w out left : List Ev} (h : Spr w out left) {x : Ev} (hx : x ∈ left) : x ∈ w := h.perm.mem_iff.1 (List.mem_append_right _ hx)
theorem Spr.next {w out left : List Ev} (hw : GoodP w) (h : Spr w out left) (hne : 0 < left.length) : ∃ k, ∃ h : k < left.length, (left[k]'h).c.le (clockP out) = true := by
  have hx := List.getElem_mem (l := left) (n := 0) hne
  have hxw := h.mem hx
  have hxo := h.out hw hx
  obtain ⟨i, hi, hix⟩ := List.getElem_of_mem hxw
  rcases first_not (w := w) (out := out) w.length (Nat.le_refl _) with hall | ⟨k, hk, hko, hkj⟩
  · exact absurd (hall i hi hi) (by rw [hix]; exact hxo)
  · have hkl : w[k]'hk ∈ left := by
      rcases List.mem_append.1 (h.perm.mem_iff.2 (List.getElem_mem hk)) with h1 | h1
      · exact absurd h1 hko
      · exact h1
    obtain ⟨q, hq, hqe⟩ := List.getElem_of_mem hkl
    refine ⟨q, hq, ?_⟩
    rw [hqe, Clk.le_iff]
    intro j hj
    have h1 := (Clk.le_iff _ _).1 (hw.nth hk) j hj
    refine Int.le_trans h1 ?_
    have hp := clockP_pos out hj
    by_cases h0 : (clockP (w.take k)).get j ≤ 0
    · omega
    · have hh : (clockP (w.take k)).has j ((clockP (w.take k)).get j) = true := (Clk.has_iff _ _ _).2 ⟨by omega, by omega, by omega, by rw [Int.toNat_natCast]; exact Int.le_refl _⟩
      obtain ⟨a, ha, hae⟩ := mem_marks.1 (((hw.dlv k).has_iff hw.right).1 hh)
      obtain ⟨p, hpl, hpe⟩ := List.getElem_of_mem ha
      rw [List.length_take] at hpl
      rw [List.getElem_take] at hpe
      have hao : a ∈ out := by rw [← hpe]; exact hkj p (by omega) (by omega)
      have := ((h.dlv.has_iff hw.right).2 (mem_marks.2 ⟨a, hao, hae⟩))
      have := ((Clk.has_iff _ _ _).1 this).2.2.2
      rwa [Int.toNat_natCast] at this
theorem Spr.step {w out left : List Ev} (hw : GoodP w) (h : Spr w out left) {k : Nat} (hk : k < left.length) (hc : (left[k]'hk).c.le (clockP out) = true) :
    Spr w (out ++ [left[k]'hk]) (left.take k ++ left.drop (k + 1)) ∧ clockP (out ++ [left[k]'hk]) = (clockP out).set (left[k]'hk).r.toNat (left[k]'hk).n ∧ (clockP out).get (left[k]'hk).r.toNat < (left[k]'hk).n ∧ 0 ≤ (left[k]'hk).r ∧ (left[k]'hk).r < 5 := by
  have hx := List.getElem_mem hk
  have hxw := h.mem hx
  have hxo := h.out hw hx
  have hr := (rdy_iff hw.right h.dlv hxw hxo).2 hc
  obtain ⟨h1, h2⟩ := h.dlv.step hw.right hxw hr
  have hm := hw.right.may _ hxw
  refine ⟨⟨h1, ?_⟩, h2, ?_, hm.r⟩
  · refine List.Perm.trans ?_ h.perm
    rw [List.append_assoc]
    refine List.Perm.append_left _ ?_
    have e : left = left.take k ++ left[k]'hk :: left.drop (k + 1) := by rw [List.getElem_cons_drop, List.take_append_drop]
    have p : (left.take k ++ left[k]'hk :: left.drop (k + 1)).Perm (left[k]'hk :: (left.take k ++ left.drop (k + 1))) := List.perm_middle
    rw [← e] at p
    exact p.symm
  · have := hr.2.2.2.1
    omega
theorem Spr.nil (w : List Ev) : Spr w [] w := ⟨Dlv.nil w, List.Perm.refl _⟩
end Go.Proofs.Ytcclbplccnaonaa
/- kithref08.Spread, walked. No condition. -/
namespace Go.Proofs.Ytcclbplccnaonaa
open Go.RowKit
set_option linter.unusedSimpArgs false
set_option linter.unusedVariables false
@[reducible] def StS (g7 : Nat) (C : Clk) (v5 : Value) (out : List Ev) (v6 : Value) (left : List Ev) (M : List Assn) : List Assn := Blk g7 29 (Rep.cells C) :: Evs_ v5 out :: Evs_ v6 left :: M
set_option maxRecDepth 20000 attribute [local irreducible] Ex ExL Fn thn inb rnd fin meet Tab Mix mxEnd Val Sats RdT Rd RowT Row Blk Sub Fac ResV RVal Evs subs subs3 Hid Capd
set_option maxHeartbeats 8000000 in
theorem spread_F (v0 v1 : Value) (w : List Ev) (pk : List UInt8) (M : List Assn) (hw : GoodP w) (hwl : w.length ≤ 1000) (hr : RdT M v0 w) (hp : RdT M v1 pk) (hpl : pk.length ≤ 140737488355328) : Fn Try.prog 27 #[v0, v1] M
    fun v L' => ∃ s, v.oneCell' = true ∧ Dlv w s ∧ s.Perm w ∧ L' = Evs_ v s :: M := by
  refine Fn.of_ex Try.func27 rfl Try.ntmps27 rfl ?_
  (repeat' (first | refine ExL.val rJ rJ rJ rV ?_ | (first | refine Ex.seq ?_ | refine Ex.region ?_ | refine ExL.nil ?_ | refine thn_n ?_ | refine Ex.cond_t rJ ?_ | refine Ex.cond_f rJ ?_ | refine Ex.skip ?_ | refine Ex.block ?_ | refine Ex.exit ?_ | refine Ex.ret ?_ | refine thn_exit ?_ | refine thn_ret ?_ | refine inb_n ?_ | refine inb_hit rJ ?_ | refine inb_miss rJ ?_ | refine inb_ret ?_ | refine rnd_exit ?_ | refine rnd_ret ?_ | refine meet_ret ?_ | refine meet_exit ?_) | (apply exlGuard; first | refine ExL.gskip rJ rJ rJ rJ rJ rJ ?_ | refine ExL.gtake rJ rJ rJ rJ ?_ | refine ExL.gskipU rJ rJ rJ rJ ?_ | (refine ExL.gsplit rJ rJ rJ (fun h => ?_) (fun h => ?_) <;> try (exfalso; omega))) | (first | refine st_new_ rJ rE (fun g => ?_) | refine st_boxA rJ rJ (fun g => ?_) | refine st_box1 rJ rE rN (fun g => ?_) | (apply exlStore; first | refine st_store1_ _ rJ rK rE rN rJ rJ rE rE ?_ | refine st_storeW_ _ rJ rK rJ rC rJ rJ rJ rE ?_ | refine st_storeR _ rJ rK rJ rE rJ rJ rE ?_ | refine st_storeA_ _ rJ rK rJ rC rJ rJ rJ rE rE ?_ | refine st_storeB _ rJ rJ rO rO rK rJ rO ?_ | refine st_storeG _ rJ rK rE rN rJ rO (fun cs hcs => ?_)) | refine st_slice0 rJ rJ rJ rJ (fun g => ?_) | refine st_slice1T rJ rJ rJ rJ (fun g => ?_) | refine st_makeT rJ rJ rJ rJ rE rJ rO rO (fun v o => ?_) | (apply exlCopy; first | refine st_copyW _ rJ rE rK rE rD rJ rE rJ (fun zs hzs => ?_) | refine st_copyS _ rJ rJ rK rE rD rJ rE rJ rO rO (fun zs hzs => ?_)) | refine st_sliceB rJ rJ rJ rJ rJ rJ rJ rL rE rE rJ (fun g => ?_) | refine st_slice1I rJ rJ rJ rJ rJ rJ (fun g => ?_) | refine st_slice1B rJ rJ rJ rJ rJ rJ rO rO (fun g => ?_) | refine st_slice1S rJ rJ rJ rJ rJ rJ (fun g => ?_) | refine st_slice2B rJ rJ rJ rJ rJ rJ rJ rO rO rO rO (fun g => ?_) | (apply exlConv; first | refine st_bytes rJ rJ rJ rJ rJ rO (fun v o => ?_) | refine st_mark _ rJ rJ rK rJ rJ rJ ?_) | refine st_clear _ (0 : UInt8) rJ rK rJ rJ rJ rJ rJ rO ?_ | refine st_clearT _ rJ rK rO rJ rJ rO rE ?_ | (apply exlAppend; first | refine st_app0 rJ rJ rE rD rJ rE rJ rE rJ rJ rJ rO (fun v o => ?_) | refine st_app _ rJ rE rK rE rD rJ rE rJ rE rJ rJ rJ rO (fun v o => ?_) | refine st_shift _ rJ rJ rJ rK rO rJ rJ rJ rO rO rE ?_)) | (refine Ex.cond_d rJ (fun h => ?_) (fun h => ?_) <;> try (exfalso; omega))))
  revert g
  intro g7
  rename_i g5
  refine Ex.sub (L' := Evs_ (.slice (some ⟨g5, 0, none⟩) 0 0) [] :: Blk g7 29 (Rep.cells Clk.zero) :: Evs_ v w :: M) ?_ (Sub.trans (Sub.empty (α := Ev) (some ⟨g5, 0, none⟩) 31 _) rB)
  refine Ex.reord [1] rE ?_
  refine Ex.loop [5, 6, 8] (fun q vs L' => ∃ (i : Nat) (C : Clk) (v5 v6 : Value) (out left : List Ev), i + left.length ≤ w.length ∧ q = left.length ∧ Spr w out left ∧ C = clockP out ∧ v5.oneCell' = true ∧ v6.oneCell' = true ∧ vs = [v5, v6, .int .i64 i] ∧ L' = StS g7 C v5 out v6 left M) w.length ⟨0, Clk.zero, _, _, [], w, by omega, rfl, Spr.nil w, clock_nil.symm, rfl, o, rfl, rfl⟩ ?_
  rintro q vs g1 L' ⟨i, C, v5, v6, out, left, hil, rfl, hs, hC, o5, o6, rfl, rfl⟩
  refine Ex.keep [1, 5, 6, 7, 8] rG (fun gk => ?_)
  by_cases hne : 0 < left.length
  · (repeat' (first | refine ExL.val rJ rJ rJ rV ?_ | (first | refine Ex.seq ?_ | refine Ex.region ?_ | refine ExL.nil ?_ | refine thn_n ?_ | refine Ex.cond_t rJ ?_ | refine Ex.cond_f rJ ?_ | refine Ex.skip ?_ | refine Ex.block ?_ | refine Ex.exit ?_ | refine Ex.ret ?_ | refine thn_exit ?_ | refine thn_ret ?_ | refine inb_n ?_ | refine inb_hit rJ ?_ | refine inb_miss rJ ?_ | refine inb_ret ?_ | refine rnd_exit ?_ | refine rnd_ret ?_ | refine meet_ret ?_ | refine meet_exit ?_) | (apply exlGuard; first | refine ExL.gskip rJ rJ rJ rJ rJ rJ ?_ | refine ExL.gtake rJ rJ rJ rJ ?_ | refine ExL.gskipU rJ rJ rJ rJ ?_ | (refine ExL.gsplit rJ rJ rJ (fun h => ?_) (fun h => ?_) <;> try (exfalso; omega))) | (first | refine st_new_ rJ rE (fun g => ?_) | refine st_boxA rJ rJ (fun g => ?_) | refine st_box1 rJ rE rN (fun g => ?_) | (apply exlStore; first | refine st_store1_ _ rJ rK rE rN rJ rJ rE rE ?_ | refine st_storeW_ _ rJ rK rJ rC rJ rJ rJ rE ?_ | refine st_storeR _ rJ rK rJ rE rJ rJ rE ?_ | refine st_storeA_ _ rJ rK rJ rC rJ rJ rJ rE rE ?_ | refine st_storeB _ rJ rJ rO rO rK rJ rO ?_ | refine st_storeG _ rJ rK rE rN rJ rO (fun cs hcs => ?_)) | refine st_slice0 rJ rJ rJ rJ (fun g => ?_) | refine st_slice1T rJ rJ rJ rJ (fun g => ?_) | refine st_makeT rJ rJ rJ rJ rE rJ rO rO (fun v o => ?_) | (apply exlCopy; first | refine st_copyW _ rJ rE rK rE rD rJ rE rJ (fun zs hzs => ?_) | refine st_copyS _ rJ rJ rK rE rD rJ rE rJ rO rO (fun zs hzs => ?_)) | refine st_sliceB rJ rJ rJ rJ rJ rJ rJ rL rE rE rJ (fun g => ?_) | refine st_slice1I rJ rJ rJ rJ rJ rJ (fun g => ?_) | refine st_slice1B rJ rJ rJ rJ rJ rJ rO rO (fun g => ?_) | refine st_slice1S rJ rJ rJ rJ rJ rJ (fun g => ?_) | refine st_slice2B rJ rJ rJ rJ rJ rJ rJ rO rO rO rO (fun g => ?_) | (apply exlConv; first | refine st_bytes rJ rJ rJ rJ rJ rO (fun v o => ?_) | refine st_mark _ rJ rJ rK rJ rJ rJ ?_) | refine st_clear _ (0 : UInt8) rJ rK rJ rJ rJ rJ rJ rO ?_ | refine st_clearT _ rJ rK rO rJ rJ rO rE ?_ | (apply exlAppend; first | refine st_app0 rJ rJ rE rD rJ rE rJ rE rJ rJ rJ rO (fun v o => ?_) | refine st_app _ rJ rE rK rE rD rJ rE rJ rE rJ rJ rJ rO (fun v o => ?_) | refine st_shift _ rJ rJ rJ rK rO rJ rJ rJ rO rO rE ?_)) | (refine Ex.cond_d rJ (fun h => ?_) (fun h => ?_) <;> try (exfalso; omega))))
    revert g
    intro g9
    refine Ex.sub (L' := RowT (.slice (some ⟨g9, 0, none⟩) 0 0) 3 ([] : List Int) :: StS g7 C v5 out v6 left M) ?_ (Sub.empty (α := Int) (some ⟨g9, 0, none⟩) 3 _)
    refine Ex.loop [9, 10] (fun q vs L' => ∃ (k : Nat) (v9 : Value) (rs : List Int), k ≤ left.length ∧ q = left.length - k ∧ rs.length ≤ k ∧ (∀ x ∈ rs, ∃ j : Nat, x = j ∧ ∃ h : j < left.length, (left[j]'h).c.le C = true) ∧ (∀ j (h : j < left.length), j < k → (left[j]'h).c.le C = true → 0 < rs.length) ∧ v9.oneCell' = true ∧ vs = [v9, .int .i64 k] ∧ L' = RowT v9 3 rs :: StS g7 C v5 out v6 left M) left.length ⟨0, _, [], by omega, by omega, by simp, by simp, by omega, rfl, rfl, rfl⟩ ?_
    rintro q vs g2 L' ⟨k, v9, rs, hk, rfl, hrl, hrs, hrn, o9, rfl, rfl⟩
    refine Ex.keep [1, 5, 6, 7, 8, 9, 10] rG (fun gk => ?_)
    by_cases hlk : k < left.length
    · (repeat' (first | refine ExL.val rJ rJ rJ rV ?_ | (first | refine Ex.seq ?_ | refine Ex.region ?_ | refine ExL.nil ?_ | refine thn_n ?_ | refine Ex.cond_t rJ ?_ | refine Ex.cond_f rJ ?_ | refine Ex.skip ?_ | refine Ex.block ?_ | refine Ex.exit ?_ | refine Ex.ret ?_ | refine thn_exit ?_ | refine thn_ret ?_ | refine inb_n ?_ | refine inb_hit rJ ?_ | refine inb_miss rJ ?_ | refine inb_ret ?_ | refine rnd_exit ?_ | refine rnd_ret ?_ | refine meet_ret ?_ | refine meet_exit ?_) | (apply exlGuard; first | refine ExL.gskip rJ rJ rJ rJ rJ rJ ?_ | refine ExL.gtake rJ rJ rJ rJ ?_ | refine ExL.gskipU rJ rJ rJ rJ ?_ | (refine ExL.gsplit rJ rJ rJ (fun h => ?_) (fun h => ?_) <;> try (exfalso; omega))) | (first | refine st_new_ rJ rE (fun g => ?_) | refine st_boxA rJ rJ (fun g => ?_) | refine st_box1 rJ rE rN (fun g => ?_) | (apply exlStore; first | refine st_store1_ _ rJ rK rE rN rJ rJ rE rE ?_ | refine st_storeW_ _ rJ rK rJ rC rJ rJ rJ rE ?_ | refine st_storeR _ rJ rK rJ rE rJ rJ rE ?_ | refine st_storeA_ _ rJ rK rJ rC rJ rJ rJ rE rE ?_ | refine st_storeB _ rJ rJ rO rO rK rJ rO ?_ | refine st_storeG _ rJ rK rE rN rJ rO (fun cs hcs => ?_)) | refine st_slice0 rJ rJ rJ rJ (fun g => ?_) | refine st_slice1T rJ rJ rJ rJ (fun g => ?_) | refine st_makeT rJ rJ rJ rJ rE rJ rO rO (fun v o => ?_) | (apply exlCopy; first | refine st_copyW _ rJ rE rK rE rD rJ rE rJ (fun zs hzs => ?_) | refine st_copyS _ rJ rJ rK rE rD rJ rE rJ rO rO (fun zs hzs => ?_)) | refine st_sliceB rJ rJ rJ rJ rJ rJ rJ rL rE rE rJ (fun g => ?_) | refine st_slice1I rJ rJ rJ rJ rJ rJ (fun g => ?_) | refine st_slice1B rJ rJ rJ rJ rJ rJ rO rO (fun g => ?_) | refine st_slice1S rJ rJ rJ rJ rJ rJ (fun g => ?_) | refine st_slice2B rJ rJ rJ rJ rJ rJ rJ rO rO rO rO (fun g => ?_) | (apply exlConv; first | refine st_bytes rJ rJ rJ rJ rJ rO (fun v o => ?_) | refine st_mark _ rJ rJ rK rJ rJ rJ ?_) | refine st_clear _ (0 : UInt8) rJ rK rJ rJ rJ rJ rJ rO ?_ | refine st_clearT _ rJ rK rO rJ rJ rO rE ?_ | (apply exlAppend; first | refine st_app0 rJ rJ rE rD rJ rE rJ rE rJ rJ rJ rO (fun v o => ?_) | refine st_app _ rJ rE rK rE rD rJ rE rJ rE rJ rJ rJ rO (fun v o => ?_) | refine st_shift _ rJ rJ rJ rK rO rJ rJ rJ rO rO rE ?_)) | (refine Ex.cond_d rJ (fun h => ?_) (fun h => ?_) <;> try (exfalso; omega))))
      (refine Ex.mixA 7 _ rfl (by kernel_rfl) (Fac.refl _) ?_; (repeat' (first | refine mx_val rJ rJ rJ rV ?_ | refine mx_nil ?_ | (first | refine mx_gskip rJ rJ rJ rJ ?_ | refine mx_gtake rJ rJ rJ ?_ | refine mx_gskipU rJ rJ rJ ?_) | (first | refine mx_slice1T rJ rJ rJ rJ (fun g => ?_) | refine mx_slice1I rJ rJ rJ rJ rJ rJ (fun g => ?_) | refine mx_slice1B rJ rJ rJ rJ rJ rJ rO rO (fun g => ?_) | refine mx_slice1S rJ rJ rJ rJ rJ rJ (fun g => ?_) | refine mx_slice2B rJ rJ rJ rJ rJ rJ rJ rO rO rO rO (fun g => ?_) | refine mx_alloc rJ rE (fun g => ?_) | refine mx_boxA rJ rJ (fun g => ?_) | refine mx_slice0 rJ rJ rJ rJ (fun g => ?_)) | (refine mx_gsplit rJ rJ rJ (fun h => ?_) (fun h => ?_) <;> try (exfalso; omega)) | (refine mx_act rJ rJ rJ ?_; (first | (apply exlCopy; first | refine st_copyW _ rJ rE rK rE rD rJ rE rJ (fun zs hzs => ?_) | refine st_copyS _ rJ rJ rK rE rD rJ rE rJ rO rO (fun zs hzs => ?_)) | (apply exlAppend; first | refine st_app0 rJ rJ rE rD rJ rE rJ rE rJ rJ rJ rO (fun v o => ?_) | refine st_app _ rJ rE rK rE rD rJ rE rJ rE rJ rJ rJ rO (fun v o => ?_) | refine st_shift _ rJ rJ rJ rK rO rJ rJ rJ rO rO rE ?_)); refine ExL.nil ?_; refine mxEnd_n rF ?_))))
      (refine mx_act rJ rJ rJ ?_; refine st_callIs [] rJ Try.call43 rE rJ (rle_F (left[k]'hlk).c C _) ?_)
      rintro _ _ ⟨rfl, rfl⟩
      by_cases hle : (left[k]'hlk).c.le C = true
      · rw [hle]
        (refine ExL.nil ?_; refine mxEnd_n rF ?_; (repeat' (first | refine mx_val rJ rJ rJ rV ?_ | refine mx_nil ?_ | (first | refine mx_gskip rJ rJ rJ rJ ?_ | refine mx_gtake rJ rJ rJ ?_ | refine mx_gskipU rJ rJ rJ ?_) | (first | refine mx_slice1T rJ rJ rJ rJ (fun g => ?_) | refine mx_slice1I rJ rJ rJ rJ rJ rJ (fun g => ?_) | refine mx_slice1B rJ rJ rJ rJ rJ rJ rO rO (fun g => ?_) | refine mx_slice1S rJ rJ rJ rJ rJ rJ (fun g => ?_) | refine mx_slice2B rJ rJ rJ rJ rJ rJ rJ rO rO rO rO (fun g => ?_) | refine mx_alloc rJ rE (fun g => ?_) | refine mx_boxA rJ rJ (fun g => ?_) | refine mx_slice0 rJ rJ rJ rJ (fun g => ?_)) | (refine mx_gsplit rJ rJ rJ (fun h => ?_) (fun h => ?_) <;> try (exfalso; omega)) | (refine mx_act rJ rJ rJ ?_; (first | (apply exlCopy; first | refine st_copyW _ rJ rE rK rE rD rJ rE rJ (fun zs hzs => ?_) | refine st_copyS _ rJ rJ rK rE rD rJ rE rJ rO rO (fun zs hzs => ?_)) | (apply exlAppend; first | refine st_app0 rJ rJ rE rD rJ rE rJ rE rJ rJ rJ rO (fun v o => ?_) | refine st_app _ rJ rE rK rE rD rJ rE rJ rE rJ rJ rJ rO (fun v o => ?_) | refine st_shift _ rJ rJ rJ rK rO rJ rJ rJ rO rO rE ?_)); refine ExL.nil ?_; refine mxEnd_n rF ?_))))
        (repeat' (first | refine ExL.val rJ rJ rJ rV ?_ | (first | refine Ex.seq ?_ | refine Ex.region ?_ | refine ExL.nil ?_ | refine thn_n ?_ | refine Ex.cond_t rJ ?_ | refine Ex.cond_f rJ ?_ | refine Ex.skip ?_ | refine Ex.block ?_ | refine Ex.exit ?_ | refine Ex.ret ?_ | refine thn_exit ?_ | refine thn_ret ?_ | refine inb_n ?_ | refine inb_hit rJ ?_ | refine inb_miss rJ ?_ | refine inb_ret ?_ | refine rnd_exit ?_ | refine rnd_ret ?_ | refine meet_ret ?_ | refine meet_exit ?_) | (apply exlGuard; first | refine ExL.gskip rJ rJ rJ rJ rJ rJ ?_ | refine ExL.gtake rJ rJ rJ rJ ?_ | refine ExL.gskipU rJ rJ rJ rJ ?_ | (refine ExL.gsplit rJ rJ rJ (fun h => ?_) (fun h => ?_) <;> try (exfalso; omega))) | (first | refine st_new_ rJ rE (fun g => ?_) | refine st_boxA rJ rJ (fun g => ?_) | refine st_box1 rJ rE rN (fun g => ?_) | (apply exlStore; first | refine st_store1_ _ rJ rK rE rN rJ rJ rE rE ?_ | refine st_storeW_ _ rJ rK rJ rC rJ rJ rJ rE ?_ | refine st_storeR _ rJ rK rJ rE rJ rJ rE ?_ | refine st_storeA_ _ rJ rK rJ rC rJ rJ rJ rE rE ?_ | refine st_storeB _ rJ rJ rO rO rK rJ rO ?_ | refine st_storeG _ rJ rK rE rN rJ rO (fun cs hcs => ?_)) | refine st_slice0 rJ rJ rJ rJ (fun g => ?_) | refine st_slice1T rJ rJ rJ rJ (fun g => ?_) | refine st_makeT rJ rJ rJ rJ rE rJ rO rO (fun v o => ?_) | (apply exlCopy; first | refine st_copyW _ rJ rE rK rE rD rJ rE rJ (fun zs hzs => ?_) | refine st_copyS _ rJ rJ rK rE rD rJ rE rJ rO rO (fun zs hzs => ?_)) | refine st_sliceB rJ rJ rJ rJ rJ rJ rJ rL rE rE rJ (fun g => ?_) | refine st_slice1I rJ rJ rJ rJ rJ rJ (fun g => ?_) | refine st_slice1B rJ rJ rJ rJ rJ rJ rO rO (fun g => ?_) | refine st_slice1S rJ rJ rJ rJ rJ rJ (fun g => ?_) | refine st_slice2B rJ rJ rJ rJ rJ rJ rJ rO rO rO rO (fun g => ?_) | (apply exlConv; first | refine st_bytes rJ rJ rJ rJ rJ rO (fun v o => ?_) | refine st_mark _ rJ rJ rK rJ rJ rJ ?_) | refine st_clear _ (0 : UInt8) rJ rK rJ rJ rJ rJ rJ rO ?_ | refine st_clearT _ rJ rK rO rJ rJ rO rE ?_ | (apply exlAppend; first | refine st_app0 rJ rJ rE rD rJ rE rJ rE rJ rJ rJ rO (fun v o => ?_) | refine st_app _ rJ rE rK rE rD rJ rE rJ rE rJ rJ rJ rO (fun v o => ?_) | refine st_shift _ rJ rJ rJ rK rO rJ rJ rJ rO rO rE ?_)) | (refine Ex.cond_d rJ (fun h => ?_) (fun h => ?_) <;> try (exfalso; omega))))
        exact rnd_n ⟨left.length - (k + 1), RowT v 3 (rs ++ [(k : Int)]) :: StS g7 C v5 out v6 left M, by omega, rB, k + 1, v, _, by omega, rfl, by simp; omega, (fun x hx => by
          rcases List.mem_append.1 hx with hx | hx
          · exact hrs x hx
          · simp only [List.mem_singleton] at hx
            exact ⟨k, hx, hlk, hle⟩), (fun j h hj hc => by simp), by assumption, lcons rfl (lcons (vint (by omega)) rfl), rfl⟩
      · have hlf : (left[k]'hlk).c.le C = false := by simpa using hle
        rw [hlf]
        (refine ExL.nil ?_; refine mxEnd_n rF ?_; (repeat' (first | refine mx_val rJ rJ rJ rV ?_ | refine mx_nil ?_ | (first | refine mx_gskip rJ rJ rJ rJ ?_ | refine mx_gtake rJ rJ rJ ?_ | refine mx_gskipU rJ rJ rJ ?_) | (first | refine mx_slice1T rJ rJ rJ rJ (fun g => ?_) | refine mx_slice1I rJ rJ rJ rJ rJ rJ (fun g => ?_) | refine mx_slice1B rJ rJ rJ rJ rJ rJ rO rO (fun g => ?_) | refine mx_slice1S rJ rJ rJ rJ rJ rJ (fun g => ?_) | refine mx_slice2B rJ rJ rJ rJ rJ rJ rJ rO rO rO rO (fun g => ?_) | refine mx_alloc rJ rE (fun g => ?_) | refine mx_boxA rJ rJ (fun g => ?_) | refine mx_slice0 rJ rJ rJ rJ (fun g => ?_)) | (refine mx_gsplit rJ rJ rJ (fun h => ?_) (fun h => ?_) <;> try (exfalso; omega)) | (refine mx_act rJ rJ rJ ?_; (first | (apply exlCopy; first | refine st_copyW _ rJ rE rK rE rD rJ rE rJ (fun zs hzs => ?_) | refine st_copyS _ rJ rJ rK rE rD rJ rE rJ rO rO (fun zs hzs => ?_)) | (apply exlAppend; first | refine st_app0 rJ rJ rE rD rJ rE rJ rE rJ rJ rJ rO (fun v o => ?_) | refine st_app _ rJ rE rK rE rD rJ rE rJ rE rJ rJ rJ rO (fun v o => ?_) | refine st_shift _ rJ rJ rJ rK rO rJ rJ rJ rO rO rE ?_)); refine ExL.nil ?_; refine mxEnd_n rF ?_))))
        (repeat' (first | refine ExL.val rJ rJ rJ rV ?_ | (first | refine Ex.seq ?_ | refine Ex.region ?_ | refine ExL.nil ?_ | refine thn_n ?_ | refine Ex.cond_t rJ ?_ | refine Ex.cond_f rJ ?_ | refine Ex.skip ?_ | refine Ex.block ?_ | refine Ex.exit ?_ | refine Ex.ret ?_ | refine thn_exit ?_ | refine thn_ret ?_ | refine inb_n ?_ | refine inb_hit rJ ?_ | refine inb_miss rJ ?_ | refine inb_ret ?_ | refine rnd_exit ?_ | refine rnd_ret ?_ | refine meet_ret ?_ | refine meet_exit ?_) | (apply exlGuard; first | refine ExL.gskip rJ rJ rJ rJ rJ rJ ?_ | refine ExL.gtake rJ rJ rJ rJ ?_ | refine ExL.gskipU rJ rJ rJ rJ ?_ | (refine ExL.gsplit rJ rJ rJ (fun h => ?_) (fun h => ?_) <;> try (exfalso; omega))) | (first | refine st_new_ rJ rE (fun g => ?_) | refine st_boxA rJ rJ (fun g => ?_) | refine st_box1 rJ rE rN (fun g => ?_) | (apply exlStore; first | refine st_store1_ _ rJ rK rE rN rJ rJ rE rE ?_ | refine st_storeW_ _ rJ rK rJ rC rJ rJ rJ rE ?_ | refine st_storeR _ rJ rK rJ rE rJ rJ rE ?_ | refine st_storeA_ _ rJ rK rJ rC rJ rJ rJ rE rE ?_ | refine st_storeB _ rJ rJ rO rO rK rJ rO ?_ | refine st_storeG _ rJ rK rE rN rJ rO (fun cs hcs => ?_)) | refine st_slice0 rJ rJ rJ rJ (fun g => ?_) | refine st_slice1T rJ rJ rJ rJ (fun g => ?_) | refine st_makeT rJ rJ rJ rJ rE rJ rO rO (fun v o => ?_) | (apply exlCopy; first | refine st_copyW _ rJ rE rK rE rD rJ rE rJ (fun zs hzs => ?_) | refine st_copyS _ rJ rJ rK rE rD rJ rE rJ rO rO (fun zs hzs => ?_)) | refine st_sliceB rJ rJ rJ rJ rJ rJ rJ rL rE rE rJ (fun g => ?_) | refine st_slice1I rJ rJ rJ rJ rJ rJ (fun g => ?_) | refine st_slice1B rJ rJ rJ rJ rJ rJ rO rO (fun g => ?_) | refine st_slice1S rJ rJ rJ rJ rJ rJ (fun g => ?_) | refine st_slice2B rJ rJ rJ rJ rJ rJ rJ rO rO rO rO (fun g => ?_) | (apply exlConv; first | refine st_bytes rJ rJ rJ rJ rJ rO (fun v o => ?_) | refine st_mark _ rJ rJ rK rJ rJ rJ ?_) | refine st_clear _ (0 : UInt8) rJ rK rJ rJ rJ rJ rJ rO ?_ | refine st_clearT _ rJ rK rO rJ rJ rO rE ?_ | (apply exlAppend; first | refine st_app0 rJ rJ rE rD rJ rE rJ rE rJ rJ rJ rO (fun v o => ?_) | refine st_app _ rJ rE rK rE rD rJ rE rJ rE rJ rJ rJ rO (fun v o => ?_) | refine st_shift _ rJ rJ rJ rK rO rJ rJ rJ rO rO rE ?_)) | (refine Ex.cond_d rJ (fun h => ?_) (fun h => ?_) <;> try (exfalso; omega))))
        exact rnd_n ⟨left.length - (k + 1), RowT v9 3 rs :: StS g7 C v5 out v6 left M, by omega, rB, k + 1, v9, rs, by omega, rfl, by omega, hrs, (fun j h hj hc => by
          by_cases hjk : j = k
          · subst hjk; exact absurd hc hle
          · exact hrn j h (by omega) hc), o9, lcons rfl (lcons (vint (by omega)) rfl), rfl⟩
    · obtain rfl : k = left.length := by omega
      obtain ⟨kn, hkn, hknc⟩ := hs.next hw hne
      rw [← hC] at hknc
      have hr0 := hrn kn hkn hkn hknc
      clear hrn hkn hknc
      by_cases hip : i < pk.length
      focus
        have hb := (pk[i]'hip).toNat_lt
        have hm0 := Int.emod_nonneg ((pk[i]'hip).toNat : Int) (show (rs.length : Int) ≠ 0 by omega)
        have hm1 := Int.emod_lt_of_pos ((pk[i]'hip).toNat : Int) (show (0 : Int) < rs.length by omega)
        obtain ⟨x, hx⟩ : ∃ x, x = rs[(((pk[i]'hip).toNat : Int) % (rs.length : Int)).toNat]'(by omega) := ⟨_, rfl⟩
        obtain ⟨j, hj, hjl, hjc⟩ := hrs x (by rw [hx]; exact List.getElem_mem _)
        rw [hj] at hx
        clear hj hrs
        (repeat' (first | refine ExL.val rJ rJ rJ rV ?_ | (first | refine Ex.seq ?_ | refine Ex.region ?_ | refine ExL.nil ?_ | refine thn_n ?_ | refine Ex.cond_t rJ ?_ | refine Ex.cond_f rJ ?_ | refine Ex.skip ?_ | refine Ex.block ?_ | refine Ex.exit ?_ | refine Ex.ret ?_ | refine thn_exit ?_ | refine thn_ret ?_ | refine inb_n ?_ | refine inb_hit rJ ?_ | refine inb_miss rJ ?_ | refine inb_ret ?_ | refine rnd_exit ?_ | refine rnd_ret ?_ | refine meet_ret ?_ | refine meet_exit ?_) | (apply exlGuard; first | refine ExL.gskip rJ rJ rJ rJ rJ rJ ?_ | refine ExL.gtake rJ rJ rJ rJ ?_ | refine ExL.gskipU rJ rJ rJ rJ ?_ | (refine ExL.gsplit rJ rJ rJ (fun h => ?_) (fun h => ?_) <;> try (exfalso; omega))) | (first | refine st_new_ rJ rE (fun g => ?_) | refine st_boxA rJ rJ (fun g => ?_) | refine st_box1 rJ rE rN (fun g => ?_) | (apply exlStore; first | refine st_store1_ _ rJ rK rE rN rJ rJ rE rE ?_ | refine st_storeW_ _ rJ rK rJ rC rJ rJ rJ rE ?_ | refine st_storeR _ rJ rK rJ rE rJ rJ rE ?_ | refine st_storeA_ _ rJ rK rJ rC rJ rJ rJ rE rE ?_ | refine st_storeB _ rJ rJ rO rO rK rJ rO ?_ | refine st_storeG _ rJ rK rE rN rJ rO (fun cs hcs => ?_)) | refine st_slice0 rJ rJ rJ rJ (fun g => ?_) | refine st_slice1T rJ rJ rJ rJ (fun g => ?_) | refine st_makeT rJ rJ rJ rJ rE rJ rO rO (fun v o => ?_) | (apply exlCopy; first | refine st_copyW _ rJ rE rK rE rD rJ rE rJ (fun zs hzs => ?_) | refine st_copyS _ rJ rJ rK rE rD rJ rE rJ rO rO (fun zs hzs => ?_)) | refine st_sliceB rJ rJ rJ rJ rJ rJ rJ rL rE rE rJ (fun g => ?_) | refine st_slice1I rJ rJ rJ rJ rJ rJ (fun g => ?_) | refine st_slice1B rJ rJ rJ rJ rJ rJ rO rO (fun g => ?_) | refine st_slice1S rJ rJ rJ rJ rJ rJ (fun g => ?_) | refine st_slice2B rJ rJ rJ rJ rJ rJ rJ rO rO rO rO (fun g => ?_) | (apply exlConv; first | refine st_bytes rJ rJ rJ rJ rJ rO (fun v o => ?_) | refine st_mark _ rJ rJ rK rJ rJ rJ ?_) | refine st_clear _ (0 : UInt8) rJ rK rJ rJ rJ rJ rJ rO ?_ | refine st_clearT _ rJ rK rO rJ rJ rO rE ?_ | (apply exlAppend; first | refine st_app0 rJ rJ rE rD rJ rE rJ rE rJ rJ rJ rO (fun v o => ?_) | refine st_app _ rJ rE rK rE rD rJ rE rJ rE rJ rJ rJ rO (fun v o => ?_) | refine st_shift _ rJ rJ rJ rK rO rJ rJ rJ rO rO rE ?_)) | (refine Ex.cond_d rJ (fun h => ?_) (fun h => ?_) <;> try (exfalso; omega))))
        simp only [← hx, Int.toNat_natCast]
      rotate_left
      focus
        obtain ⟨x, hx⟩ : ∃ x, x = rs[0]'hr0 := ⟨_, rfl⟩
        obtain ⟨j, hj, hjl, hjc⟩ := hrs x (by rw [hx]; exact List.getElem_mem _)
        rw [hj] at hx
        clear hj hrs
        (repeat' (first | refine ExL.val rJ rJ rJ rV ?_ | (first | refine Ex.seq ?_ | refine Ex.region ?_ | refine ExL.nil ?_ | refine thn_n ?_ | refine Ex.cond_t rJ ?_ | refine Ex.cond_f rJ ?_ | refine Ex.skip ?_ | refine Ex.block ?_ | refine Ex.exit ?_ | refine Ex.ret ?_ | refine thn_exit ?_ | refine thn_ret ?_ | refine inb_n ?_ | refine inb_hit rJ ?_ | refine inb_miss rJ ?_ | refine inb_ret ?_ | refine rnd_exit ?_ | refine rnd_ret ?_ | refine meet_ret ?_ | refine meet_exit ?_) | (apply exlGuard; first | refine ExL.gskip rJ rJ rJ rJ rJ rJ ?_ | refine ExL.gtake rJ rJ rJ rJ ?_ | refine ExL.gskipU rJ rJ rJ rJ ?_ | (refine ExL.gsplit rJ rJ rJ (fun h => ?_) (fun h => ?_) <;> try (exfalso; omega))) | (first | refine st_new_ rJ rE (fun g => ?_) | refine st_boxA rJ rJ (fun g => ?_) | refine st_box1 rJ rE rN (fun g => ?_) | (apply exlStore; first | refine st_store1_ _ rJ rK rE rN rJ rJ rE rE ?_ | refine st_storeW_ _ rJ rK rJ rC rJ rJ rJ rE ?_ | refine st_storeR _ rJ rK rJ rE rJ rJ rE ?_ | refine st_storeA_ _ rJ rK rJ rC rJ rJ rJ rE rE ?_ | refine st_storeB _ rJ rJ rO rO rK rJ rO ?_ | refine st_storeG _ rJ rK rE rN rJ rO (fun cs hcs => ?_)) | refine st_slice0 rJ rJ rJ rJ (fun g => ?_) | refine st_slice1T rJ rJ rJ rJ (fun g => ?_) | refine st_makeT rJ rJ rJ rJ rE rJ rO rO (fun v o => ?_) | (apply exlCopy; first | refine st_copyW _ rJ rE rK rE rD rJ rE rJ (fun zs hzs => ?_) | refine st_copyS _ rJ rJ rK rE rD rJ rE rJ rO rO (fun zs hzs => ?_)) | refine st_sliceB rJ rJ rJ rJ rJ rJ rJ rL rE rE rJ (fun g => ?_) | refine st_slice1I rJ rJ rJ rJ rJ rJ (fun g => ?_) | refine st_slice1B rJ rJ rJ rJ rJ rJ rO rO (fun g => ?_) | refine st_slice1S rJ rJ rJ rJ rJ rJ (fun g => ?_) | refine st_slice2B rJ rJ rJ rJ rJ rJ rJ rO rO rO rO (fun g => ?_) | (apply exlConv; first | refine st_bytes rJ rJ rJ rJ rJ rO (fun v o => ?_) | refine st_mark _ rJ rJ rK rJ rJ rJ ?_) | refine st_clear _ (0 : UInt8) rJ rK rJ rJ rJ rJ rJ rO ?_ | refine st_clearT _ rJ rK rO rJ rJ rO rE ?_ | (apply exlAppend; first | refine st_app0 rJ rJ rE rD rJ rE rJ rE rJ rJ rJ rO (fun v o => ?_) | refine st_app _ rJ rE rK rE rD rJ rE rJ rE rJ rJ rJ rO (fun v o => ?_) | refine st_shift _ rJ rJ rJ rK rO rJ rJ rJ rO rO rE ?_)) | (refine Ex.cond_d rJ (fun h => ?_) (fun h => ?_) <;> try (exfalso; omega))))
        simp only [← hx, Int.toNat_natCast]
      all_goals
        rw [hC] at hjc
        obtain ⟨h1, h2, h3, h4, h5⟩ := hs.step hw hjl hjc
        rw [← hC] at h2 h3
        have hlen := hs.perm.length_eq
        rw [List.length_append] at hlen
        (repeat' (first | refine ExL.val rJ rJ rJ rV ?_ | (first | refine Ex.seq ?_ | refine Ex.region ?_ | refine ExL.nil ?_ | refine thn_n ?_ | refine Ex.cond_t rJ ?_ | refine Ex.cond_f rJ ?_ | refine Ex.skip ?_ | refine Ex.block ?_ | refine Ex.exit ?_ | refine Ex.ret ?_ | refine thn_exit ?_ | refine thn_ret ?_ | refine inb_n ?_ | refine inb_hit rJ ?_ | refine inb_miss rJ ?_ | refine inb_ret ?_ | refine rnd_exit ?_ | refine rnd_ret ?_ | refine meet_ret ?_ | refine meet_exit ?_) | (apply exlGuard; first | refine ExL.gskip rJ rJ rJ rJ rJ rJ ?_ | refine ExL.gtake rJ rJ rJ rJ ?_ | refine ExL.gskipU rJ rJ rJ rJ ?_ | (refine ExL.gsplit rJ rJ rJ (fun h => ?_) (fun h => ?_) <;> try (exfalso; omega))) | (first | refine st_new_ rJ rE (fun g => ?_) | refine st_boxA rJ rJ (fun g => ?_) | refine st_box1 rJ rE rN (fun g => ?_) | (apply exlStore; first | refine st_store1_ _ rJ rK rE rN rJ rJ rE rE ?_ | refine st_storeW_ _ rJ rK rJ rC rJ rJ rJ rE ?_ | refine st_storeR _ rJ rK rJ rE rJ rJ rE ?_ | refine st_storeA_ _ rJ rK rJ rC rJ rJ rJ rE rE ?_ | refine st_storeB _ rJ rJ rO rO rK rJ rO ?_ | refine st_storeG _ rJ rK rE rN rJ rO (fun cs hcs => ?_)) | refine st_slice0 rJ rJ rJ rJ (fun g => ?_) | refine st_slice1T rJ rJ rJ rJ (fun g => ?_) | refine st_makeT rJ rJ rJ rJ rE rJ rO rO (fun v o => ?_) | (apply exlCopy; first | refine st_copyW _ rJ rE rK rE rD rJ rE rJ (fun zs hzs => ?_) | refine st_copyS _ rJ rJ rK rE rD rJ rE rJ rO rO (fun zs hzs => ?_)) | refine st_sliceB rJ rJ rJ rJ rJ rJ rJ rL rE rE rJ (fun g => ?_) | refine st_slice1I rJ rJ rJ rJ rJ rJ (fun g => ?_) | refine st_slice1B rJ rJ rJ rJ rJ rJ rO rO (fun g => ?_) | refine st_slice1S rJ rJ rJ rJ rJ rJ (fun g => ?_) | refine st_slice2B rJ rJ rJ rJ rJ rJ rJ rO rO rO rO (fun g => ?_) | (apply exlConv; first | refine st_bytes rJ rJ rJ rJ rJ rO (fun v o => ?_) | refine st_mark _ rJ rJ rK rJ rJ rJ ?_) | refine st_clear _ (0 : UInt8) rJ rK rJ rJ rJ rJ rJ rO ?_ | refine st_clearT _ rJ rK rO rJ rJ rO rE ?_ | (apply exlAppend; first | refine st_app0 rJ rJ rE rD rJ rE rJ rE rJ rJ rJ rO (fun v o => ?_) | refine st_app _ rJ rE rK rE rD rJ rE rJ rE rJ rJ rJ rO (fun v o => ?_) | refine st_shift _ rJ rJ rJ rK rO rJ rJ rJ rO rO rE ?_)) | (refine Ex.cond_d rJ (fun h => ?_) (fun h => ?_) <;> try (exfalso; omega))))
        refine Ex.sub (L' := StS g7 C v (out ++ [left[j]'hjl]) v6 left M) ?_ rB
        refine Ex.keep [1, 6, 7, 8, 11, 5] rG (fun gk => ?_)
        have hmx : max ([C.a, C.b, C.c, C.d, C.e].getD (left[j]'hjl).r.toNat 0) (left[j]'hjl).n = (left[j]'hjl).n := by rw [Clk.getD_eq]; omega
        (refine Ex.mixA 18 _ rfl (by kernel_rfl) (Fac.refl _) ?_; (repeat' (first | refine mx_val rJ rJ rJ rV ?_ | refine mx_nil ?_ | (first | refine mx_gskip rJ rJ rJ rJ ?_ | refine mx_gtake rJ rJ rJ ?_ | refine mx_gskipU rJ rJ rJ ?_) | (first | refine mx_slice1T rJ rJ rJ rJ (fun g => ?_) | refine mx_slice1I rJ rJ rJ rJ rJ rJ (fun g => ?_) | refine mx_slice1B rJ rJ rJ rJ rJ rJ rO rO (fun g => ?_) | refine mx_slice1S rJ rJ rJ rJ rJ rJ (fun g => ?_) | refine mx_slice2B rJ rJ rJ rJ rJ rJ rJ rO rO rO rO (fun g => ?_) | refine mx_alloc rJ rE (fun g => ?_) | refine mx_boxA rJ rJ (fun g => ?_) | refine mx_slice0 rJ rJ rJ rJ (fun g => ?_)) | (refine mx_gsplit rJ rJ rJ (fun h => ?_) (fun h => ?_) <;> try (exfalso; omega)) | (refine mx_act rJ rJ rJ ?_; (first | (apply exlCopy; first | refine st_copyW _ rJ rE rK rE rD rJ rE rJ (fun zs hzs => ?_) | refine st_copyS _ rJ rJ rK rE rD rJ rE rJ rO rO (fun zs hzs => ?_)) | (apply exlAppend; first | refine st_app0 rJ rJ rE rD rJ rE rJ rE rJ rJ rJ rO (fun v o => ?_) | refine st_app _ rJ rE rK rE rD rJ rE rJ rE rJ rJ rJ rO (fun v o => ?_) | refine st_shift _ rJ rJ rJ rK rO rJ rJ rJ rO rO rE ?_)); refine ExL.nil ?_; refine mxEnd_n rF ?_))))
        rw [hmx]
        (repeat' (first | refine ExL.val rJ rJ rJ rV ?_ | (first | refine Ex.seq ?_ | refine Ex.region ?_ | refine ExL.nil ?_ | refine thn_n ?_ | refine Ex.cond_t rJ ?_ | refine Ex.cond_f rJ ?_ | refine Ex.skip ?_ | refine Ex.block ?_ | refine Ex.exit ?_ | refine Ex.ret ?_ | refine thn_exit ?_ | refine thn_ret ?_ | refine inb_n ?_ | refine inb_hit rJ ?_ | refine inb_miss rJ ?_ | refine inb_ret ?_ | refine rnd_exit ?_ | refine rnd_ret ?_ | refine meet_ret ?_ | refine meet_exit ?_) | (apply exlGuard; first | refine ExL.gskip rJ rJ rJ rJ rJ rJ ?_ | refine ExL.gtake rJ rJ rJ rJ ?_ | refine ExL.gskipU rJ rJ rJ rJ ?_ | (refine ExL.gsplit rJ rJ rJ (fun h => ?_) (fun h => ?_) <;> try (exfalso; omega))) | (first | refine st_new_ rJ rE (fun g => ?_) | refine st_boxA rJ rJ (fun g => ?_) | refine st_box1 rJ rE rN (fun g => ?_) | (apply exlStore; first | refine st_store1_ _ rJ rK rE rN rJ rJ rE rE ?_ | refine st_storeW_ _ rJ rK rJ rC rJ rJ rJ rE ?_ | refine st_storeR _ rJ rK rJ rE rJ rJ rE ?_ | refine st_storeA_ _ rJ rK rJ rC rJ rJ rJ rE rE ?_ | refine st_storeB _ rJ rJ rO rO rK rJ rO ?_ | refine st_storeG _ rJ rK rE rN rJ rO (fun cs hcs => ?_)) | refine st_slice0 rJ rJ rJ rJ (fun g => ?_) | refine st_slice1T rJ rJ rJ rJ (fun g => ?_) | refine st_makeT rJ rJ rJ rJ rE rJ rO rO (fun v o => ?_) | (apply exlCopy; first | refine st_copyW _ rJ rE rK rE rD rJ rE rJ (fun zs hzs => ?_) | refine st_copyS _ rJ rJ rK rE rD rJ rE rJ rO rO (fun zs hzs => ?_)) | refine st_sliceB rJ rJ rJ rJ rJ rJ rJ rL rE rE rJ (fun g => ?_) | refine st_slice1I rJ rJ rJ rJ rJ rJ (fun g => ?_) | refine st_slice1B rJ rJ rJ rJ rJ rJ rO rO (fun g => ?_) | refine st_slice1S rJ rJ rJ rJ rJ rJ (fun g => ?_) | refine st_slice2B rJ rJ rJ rJ rJ rJ rJ rO rO rO rO (fun g => ?_) | (apply exlConv; first | refine st_bytes rJ rJ rJ rJ rJ rO (fun v o => ?_) | refine st_mark _ rJ rJ rK rJ rJ rJ ?_) | refine st_clear _ (0 : UInt8) rJ rK rJ rJ rJ rJ rJ rO ?_ | refine st_clearT _ rJ rK rO rJ rJ rO rE ?_ | (apply exlAppend; first | refine st_app0 rJ rJ rE rD rJ rE rJ rE rJ rJ rJ rO (fun v o => ?_) | refine st_app _ rJ rE rK rE rD rJ rE rJ rE rJ rJ rJ rO (fun v o => ?_) | refine st_shift _ rJ rJ rJ rK rO rJ rJ rJ rO rO rE ?_)) | (refine Ex.cond_d rJ (fun h => ?_) (fun h => ?_) <;> try (exfalso; omega))))
        refine st_storeG 0 rJ rK rE rN rJ (by show 0 + (left[j]'hjl).r.toNat * 1 < 5; omega) (fun cs hcs => ?_)
        rw [show 0 + (left[j]'hjl).r.toNat * 1 = (left[j]'hjl).r.toNat by omega, Clk.cells_set C _ (by omega), ← h2] at hcs
        subst hcs
        (repeat' (first | refine ExL.val rJ rJ rJ rV ?_ | (first | refine Ex.seq ?_ | refine Ex.region ?_ | refine ExL.nil ?_ | refine thn_n ?_ | refine Ex.cond_t rJ ?_ | refine Ex.cond_f rJ ?_ | refine Ex.skip ?_ | refine Ex.block ?_ | refine Ex.exit ?_ | refine Ex.ret ?_ | refine thn_exit ?_ | refine thn_ret ?_ | refine inb_n ?_ | refine inb_hit rJ ?_ | refine inb_miss rJ ?_ | refine inb_ret ?_ | refine rnd_exit ?_ | refine rnd_ret ?_ | refine meet_ret ?_ | refine meet_exit ?_) | (apply exlGuard; first | refine ExL.gskip rJ rJ rJ rJ rJ rJ ?_ | refine ExL.gtake rJ rJ rJ rJ ?_ | refine ExL.gskipU rJ rJ rJ rJ ?_ | (refine ExL.gsplit rJ rJ rJ (fun h => ?_) (fun h => ?_) <;> try (exfalso; omega))) | (first | refine st_new_ rJ rE (fun g => ?_) | refine st_boxA rJ rJ (fun g => ?_) | refine st_box1 rJ rE rN (fun g => ?_) | (apply exlStore; first | refine st_store1_ _ rJ rK rE rN rJ rJ rE rE ?_ | refine st_storeW_ _ rJ rK rJ rC rJ rJ rJ rE ?_ | refine st_storeR _ rJ rK rJ rE rJ rJ rE ?_ | refine st_storeA_ _ rJ rK rJ rC rJ rJ rJ rE rE ?_ | refine st_storeB _ rJ rJ rO rO rK rJ rO ?_ | refine st_storeG _ rJ rK rE rN rJ rO (fun cs hcs => ?_)) | refine st_slice0 rJ rJ rJ rJ (fun g => ?_) | refine st_slice1T rJ rJ rJ rJ (fun g => ?_) | refine st_makeT rJ rJ rJ rJ rE rJ rO rO (fun v o => ?_) | (apply exlCopy; first | refine st_copyW _ rJ rE rK rE rD rJ rE rJ (fun zs hzs => ?_) | refine st_copyS _ rJ rJ rK rE rD rJ rE rJ rO rO (fun zs hzs => ?_)) | refine st_sliceB rJ rJ rJ rJ rJ rJ rJ rL rE rE rJ (fun g => ?_) | refine st_slice1I rJ rJ rJ rJ rJ rJ (fun g => ?_) | refine st_slice1B rJ rJ rJ rJ rJ rJ rO rO (fun g => ?_) | refine st_slice1S rJ rJ rJ rJ rJ rJ (fun g => ?_) | refine st_slice2B rJ rJ rJ rJ rJ rJ rJ rO rO rO rO (fun g => ?_) | (apply exlConv; first | refine st_bytes rJ rJ rJ rJ rJ rO (fun v o => ?_) | refine st_mark _ rJ rJ rK rJ rJ rJ ?_) | refine st_clear _ (0 : UInt8) rJ rK rJ rJ rJ rJ rJ rO ?_ | refine st_clearT _ rJ rK rO rJ rJ rO rE ?_ | (apply exlAppend; first | refine st_app0 rJ rJ rE rD rJ rE rJ rE rJ rJ rJ rO (fun v o => ?_) | refine st_app _ rJ rE rK rE rD rJ rE rJ rE rJ rJ rJ rO (fun v o => ?_) | refine st_shift _ rJ rJ rJ rK rO rJ rJ rJ rO rO rE ?_)) | (refine Ex.cond_d rJ (fun h => ?_) (fun h => ?_) <;> try (exfalso; omega))))
        refine Ex.sub (L' := Blk g7 29 (Rep.cells (clockP (out ++ [left[j]'hjl]))) :: Evs_ v (out ++ [left[j]'hjl]) :: Evs_ v6 left :: M) ?_ rB
        refine Ex.keep [1, 5, 6, 7, 8, 11] rG (fun gk => ?_)
        revert o
        revert v
        intro vo oo
        (refine Ex.mixA 10 _ rfl (by kernel_rfl) (Fac.refl _) ?_; (repeat' (first | refine mx_val rJ rJ rJ rV ?_ | refine mx_nil ?_ | (first | refine mx_gskip rJ rJ rJ rJ ?_ | refine mx_gtake rJ rJ rJ ?_ | refine mx_gskipU rJ rJ rJ ?_) | (first | refine mx_slice1T rJ rJ rJ rJ (fun g => ?_) | refine mx_slice1I rJ rJ rJ rJ rJ rJ (fun g => ?_) | refine mx_slice1B rJ rJ rJ rJ rJ rJ rO rO (fun g => ?_) | refine mx_slice1S rJ rJ rJ rJ rJ rJ (fun g => ?_) | refine mx_slice2B rJ rJ rJ rJ rJ rJ rJ rO rO rO rO (fun g => ?_) | refine mx_alloc rJ rE (fun g => ?_) | refine mx_boxA rJ rJ (fun g => ?_) | refine mx_slice0 rJ rJ rJ rJ (fun g => ?_)) | (refine mx_gsplit rJ rJ rJ (fun h => ?_) (fun h => ?_) <;> try (exfalso; omega)) | (refine mx_act rJ rJ rJ ?_; (first | (apply exlCopy; first | refine st_copyW _ rJ rE rK rE rD rJ rE rJ (fun zs hzs => ?_) | refine st_copyS _ rJ rJ rK rE rD rJ rE rJ rO rO (fun zs hzs => ?_)) | (apply exlAppend; first | refine st_app0 rJ rJ rE rD rJ rE rJ rE rJ rJ rJ rO (fun v o => ?_) | refine st_app _ rJ rE rK rE rD rJ rE rJ rE rJ rJ rJ rO (fun v o => ?_) | refine st_shift _ rJ rJ rJ rK rO rJ rJ rJ rO rO rE ?_)); refine ExL.nil ?_; refine mxEnd_n rF ?_))))
        simp only [Int.toNat_natCast, show ((j : Int) + 1).toNat = j + 1 by omega]
        (repeat' (first | refine ExL.val rJ rJ rJ rV ?_ | (first | refine Ex.seq ?_ | refine Ex.region ?_ | refine ExL.nil ?_ | refine thn_n ?_ | refine Ex.cond_t rJ ?_ | refine Ex.cond_f rJ ?_ | refine Ex.skip ?_ | refine Ex.block ?_ | refine Ex.exit ?_ | refine Ex.ret ?_ | refine thn_exit ?_ | refine thn_ret ?_ | refine inb_n ?_ | refine inb_hit rJ ?_ | refine inb_miss rJ ?_ | refine inb_ret ?_ | refine rnd_exit ?_ | refine rnd_ret ?_ | refine meet_ret ?_ | refine meet_exit ?_) | (apply exlGuard; first | refine ExL.gskip rJ rJ rJ rJ rJ rJ ?_ | refine ExL.gtake rJ rJ rJ rJ ?_ | refine ExL.gskipU rJ rJ rJ rJ ?_ | (refine ExL.gsplit rJ rJ rJ (fun h => ?_) (fun h => ?_) <;> try (exfalso; omega))) | (first | refine st_new_ rJ rE (fun g => ?_) | refine st_boxA rJ rJ (fun g => ?_) | refine st_box1 rJ rE rN (fun g => ?_) | (apply exlStore; first | refine st_store1_ _ rJ rK rE rN rJ rJ rE rE ?_ | refine st_storeW_ _ rJ rK rJ rC rJ rJ rJ rE ?_ | refine st_storeR _ rJ rK rJ rE rJ rJ rE ?_ | refine st_storeA_ _ rJ rK rJ rC rJ rJ rJ rE rE ?_ | refine st_storeB _ rJ rJ rO rO rK rJ rO ?_ | refine st_storeG _ rJ rK rE rN rJ rO (fun cs hcs => ?_)) | refine st_slice0 rJ rJ rJ rJ (fun g => ?_) | refine st_slice1T rJ rJ rJ rJ (fun g => ?_) | refine st_makeT rJ rJ rJ rJ rE rJ rO rO (fun v o => ?_) | (apply exlCopy; first | refine st_copyW _ rJ rE rK rE rD rJ rE rJ (fun zs hzs => ?_) | refine st_copyS _ rJ rJ rK rE rD rJ rE rJ rO rO (fun zs hzs => ?_)) | refine st_sliceB rJ rJ rJ rJ rJ rJ rJ rL rE rE rJ (fun g => ?_) | refine st_slice1I rJ rJ rJ rJ rJ rJ (fun g => ?_) | refine st_slice1B rJ rJ rJ rJ rJ rJ rO rO (fun g => ?_) | refine st_slice1S rJ rJ rJ rJ rJ rJ (fun g => ?_) | refine st_slice2B rJ rJ rJ rJ rJ rJ rJ rO rO rO rO (fun g => ?_) | (apply exlConv; first | refine st_bytes rJ rJ rJ rJ rJ rO (fun v o => ?_) | refine st_mark _ rJ rJ rK rJ rJ rJ ?_) | refine st_clear _ (0 : UInt8) rJ rK rJ rJ rJ rJ rJ rO ?_ | refine st_clearT _ rJ rK rO rJ rJ rO rE ?_ | (apply exlAppend; first | refine st_app0 rJ rJ rE rD rJ rE rJ rE rJ rJ rJ rO (fun v o => ?_) | refine st_app _ rJ rE rK rE rD rJ rE rJ rE rJ rJ rJ rO (fun v o => ?_) | refine st_shift _ rJ rJ rJ rK rO rJ rJ rJ rO rO rE ?_)) | (refine Ex.cond_d rJ (fun h => ?_) (fun h => ?_) <;> try (exfalso; omega))))
        have hll : (left.take j ++ left.drop (j + 1)).length + 1 = left.length := by rw [List.length_append, List.length_take, List.length_drop]; omega
        exact rnd_n ⟨(left.take j ++ left.drop (j + 1)).length, StS g7 (clockP (out ++ [left[j]'hjl])) vo (out ++ [left[j]'hjl]) v (left.take j ++ left.drop (j + 1)) M, by omega, Sub.trans rB (fronts_sub [2, 2] _), i + 1, _, vo, v, _, _, by omega, rfl, h1, rfl, oo, by assumption, lcons rfl (lcons rfl (lcons (vint (by omega)) rfl)), rfl⟩
  · (repeat' (first | refine ExL.val rJ rJ rJ rV ?_ | (first | refine Ex.seq ?_ | refine Ex.region ?_ | refine ExL.nil ?_ | refine thn_n ?_ | refine Ex.cond_t rJ ?_ | refine Ex.cond_f rJ ?_ | refine Ex.skip ?_ | refine Ex.block ?_ | refine Ex.exit ?_ | refine Ex.ret ?_ | refine thn_exit ?_ | refine thn_ret ?_ | refine inb_n ?_ | refine inb_hit rJ ?_ | refine inb_miss rJ ?_ | refine inb_ret ?_ | refine rnd_exit ?_ | refine rnd_ret ?_ | refine meet_ret ?_ | refine meet_exit ?_) | (apply exlGuard; first | refine ExL.gskip rJ rJ rJ rJ rJ rJ ?_ | refine ExL.gtake rJ rJ rJ rJ ?_ | refine ExL.gskipU rJ rJ rJ rJ ?_ | (refine ExL.gsplit rJ rJ rJ (fun h => ?_) (fun h => ?_) <;> try (exfalso; omega))) | (first | refine st_new_ rJ rE (fun g => ?_) | refine st_boxA rJ rJ (fun g => ?_) | refine st_box1 rJ rE rN (fun g => ?_) | (apply exlStore; first | refine st_store1_ _ rJ rK rE rN rJ rJ rE rE ?_ | refine st_storeW_ _ rJ rK rJ rC rJ rJ rJ rE ?_ | refine st_storeR _ rJ rK rJ rE rJ rJ rE ?_ | refine st_storeA_ _ rJ rK rJ rC rJ rJ rJ rE rE ?_ | refine st_storeB _ rJ rJ rO rO rK rJ rO ?_ | refine st_storeG _ rJ rK rE rN rJ rO (fun cs hcs => ?_)) | refine st_slice0 rJ rJ rJ rJ (fun g => ?_) | refine st_slice1T rJ rJ rJ rJ (fun g => ?_) | refine st_makeT rJ rJ rJ rJ rE rJ rO rO (fun v o => ?_) | (apply exlCopy; first | refine st_copyW _ rJ rE rK rE rD rJ rE rJ (fun zs hzs => ?_) | refine st_copyS _ rJ rJ rK rE rD rJ rE rJ rO rO (fun zs hzs => ?_)) | refine st_sliceB rJ rJ rJ rJ rJ rJ rJ rL rE rE rJ (fun g => ?_) | refine st_slice1I rJ rJ rJ rJ rJ rJ (fun g => ?_) | refine st_slice1B rJ rJ rJ rJ rJ rJ rO rO (fun g => ?_) | refine st_slice1S rJ rJ rJ rJ rJ rJ (fun g => ?_) | refine st_slice2B rJ rJ rJ rJ rJ rJ rJ rO rO rO rO (fun g => ?_) | (apply exlConv; first | refine st_bytes rJ rJ rJ rJ rJ rO (fun v o => ?_) | refine st_mark _ rJ rJ rK rJ rJ rJ ?_) | refine st_clear _ (0 : UInt8) rJ rK rJ rJ rJ rJ rJ rO ?_ | refine st_clearT _ rJ rK rO rJ rJ rO rE ?_ | (apply exlAppend; first | refine st_app0 rJ rJ rE rD rJ rE rJ rE rJ rJ rJ rO (fun v o => ?_) | refine st_app _ rJ rE rK rE rD rJ rE rJ rE rJ rJ rJ rO (fun v o => ?_) | refine st_shift _ rJ rJ rJ rK rO rJ rJ rJ rO rO rE ?_)) | (refine Ex.cond_d rJ (fun h => ?_) (fun h => ?_) <;> try (exfalso; omega))))
    (first | refine fin_ret rS ?_ | refine fin_norm rS ?_)
    have hl0 : left = [] := List.length_eq_zero_iff.1 (by omega)
    subst hl0
    exact ⟨_, rB, out, o5, hs.dlv, by simpa using hs.perm, rfl⟩
end Go.Proofs.Ytcclbplccnaonaa
