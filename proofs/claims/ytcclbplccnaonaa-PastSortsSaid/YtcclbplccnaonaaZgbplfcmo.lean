/- Several texts, one behind the other; each says in its head what it proves. No condition. -/
import Derived.Test.YtcclbplccnaonaaZfhjgcdef
import Derived.Test.YtcclbplccnaonaaZlodhjkll
import Derived.Test.YtcclbplccnaonaaZhhgljcbd
import Derived.Test.YtcclbplccnaonaaZlccmlldd
import Derived.Test.YtcclbplccnaonaaZkhepinjh
import Derived.Test.YtcclbplccnaonaaZafpmlbep
import Derived.Test.YtcclbplccnaonaaZegefllce
/- What may be done is short. No condition. -/
namespace Go.Proofs.Ytcclbplccnaonaa
open Go.RowKit
set_option linter.unusedSimpArgs false
set_option linter.unusedVariables false
theorem err_str {e : Ed} (h : e.err = 0) : e.key.length ≤ 8 ∧ e.value.length ≤ 12 := by
  unfold Ed.err at h
  split at h
  · cases h
  · split at h
    · rename_i h2
      exact absurd h h2
    · rename_i h2
      have h2 : keyE e.key = 0 := Classical.not_not.1 h2
      have hk : e.key.length ≤ 8 := by
        unfold keyE at h2
        split at h2
        · rename_i h3; exact h3.2.1
        · cases h2
      refine ⟨hk, ?_⟩
      split at h
      · split at h
        · cases h
        · split at h
          · cases h
          · rename_i h4
            have h4 := Classical.not_not.1 h4
            rw [h4]; simp
      · split at h
        · rename_i h4; exact absurd h h4
        · unfold valueE at h
          split at h
          · rename_i h5; exact h5.2
          · cases h
end Go.Proofs.Ytcclbplccnaonaa
/- kithlaw08: the document's example; a past that was made; walked. No condition. -/
namespace Go.Proofs.Ytcclbplccnaonaa
open Go.RowKit
set_option linter.unusedSimpArgs false
set_option linter.unusedVariables false
set_option maxRecDepth 20000
def one8 : Ev := ⟨0, 1, ⟨0, 0, 0, 0, 0⟩, 1, ⟨1, [99, 121], 0, []⟩⟩
theorem has_zero (r n : Int) : (⟨0, 0, 0, 0, 0⟩ : Clk).has r n = false := Clk.has_f fun ⟨_, _, h2, h3⟩ => by
  have := zero_get r.toNat
  unfold Clk.zero at this
  omega
theorem one8_good : GoodP [one8] := by
  have hno : ∀ r n, one8.c.has r n = false := fun r n => has_zero r n
  refine ⟨⟨fun e he => ?_, by simp [Dst], fun e he r n hh => ?_, fun e he => ?_⟩, ?_⟩
  · simp only [List.mem_singleton] at he
    subst he
    refine ⟨by decide, by decide, by decide, fun i hi => ?_, by decide, by decide⟩
    match i, hi with
    | 0, _ => decide
    | 1, _ => decide
    | 2, _ => decide
    | 3, _ => decide
    | 4, _ => decide
  · simp only [List.mem_singleton] at he
    subst he
    rw [hno] at hh; cases hh
  · simp only [List.mem_singleton] at he
    subst he
    exact ⟨fun a _ h => (by rw [hno] at h; cases h), .inl ⟨rfl, fun a _ => hno _ _⟩⟩
  · exact OrdQ.nil.snoc fun r n hh => by rw [hno] at hh; cases hh
theorem p_str {w : List Ev} (h : RightQ w) : ∀ e ∈ w, e.ed.key.length ≤ 9223372036854775807 ∧ e.ed.value.length ≤ 9223372036854775807 := fun e he => by
  have := err_str (h.may e he).ed
  omega
theorem p_h64 {w : List Ev} (h : RightQ w) : ∀ e ∈ w, I64 e.h := fun e he => by
  have := (h.may e he).h
  unfold I64
  omega
theorem p_n64 {w : List Ev} (h : RightQ w) : ∀ e ∈ w, I64 e.n := fun e he => by
  have := (h.may e he).n
  unfold I64
  omega
/-- A past, made of 40 choices at most. -/
theorem made40 {l : List Ch} (hok : ∀ c ∈ l, c.Ok) : ∃ l2, l2 = l.take 40 ∧ l2.length ≤ 40 ∧ (∀ c ∈ l2, c.Ok) ∧ ∃ w, w = makeP l2 ∧ w.length ≤ 40 ∧ GoodP w := by
  have hl2l : (l.take 40).length ≤ 40 := by rw [List.length_take]; omega
  have hl2o : ∀ c ∈ l.take 40, c.Ok := fun c hc => hok c (List.mem_of_mem_take hc)
  have hmk := makeS_ok _ hl2o
  refine ⟨_, rfl, hl2l, hl2o, _, rfl, ?_, makeP_good _ (by omega) hl2o⟩
  have := hmk.len; unfold makeP; omega
set_option maxRecDepth 20000 attribute [local irreducible] Ex ExL Fn thn inb rnd fin meet Tab Mix mxEnd Val Sats RdT Rd RowT Row Blk Sub Fac ResV RVal Evs subs subs3 Hid Capd
theorem right_yes (v0 : Value) (l : List Ev) (M : List Assn) (hr : RdT M v0 l) (hl : l.length ≤ 1000000) (h : RightQ l) : Fn Try.prog 14 #[v0] M fun v L' => v = .bool true ∧ L' = M := by
  refine (right_F v0 l M hr hl (p_h64 h) (p_str h)).mono ?_
  rintro v L' ⟨⟨b, hb, rfl⟩, rfl⟩
  exact ⟨by rw [hb.2 (RightQ.iff.2 h)], rfl⟩
theorem right_no (v0 : Value) (l : List Ev) (M : List Assn) (hr : RdT M v0 l) (hl : l.length ≤ 1000000) (h : ¬ RightQ l) (hh : ∀ e ∈ l, I64 e.h) (hs : ∀ e ∈ l, e.ed.key.length ≤ 9223372036854775807 ∧ e.ed.value.length ≤ 9223372036854775807) : Fn Try.prog 14 #[v0] M fun v L' => v = .bool false ∧ L' = M := by
  refine (right_F v0 l M hr hl hh hs).mono ?_
  rintro v L' ⟨⟨b, hb, rfl⟩, rfl⟩
  cases b
  · exact ⟨rfl, rfl⟩
  · exact absurd (RightQ.iff.1 (hb.1 rfl)) h
theorem ordered_yes (v0 : Value) (l : List Ev) (M : List Assn) (hr : RdT M v0 l) (hl : l.length ≤ 1000000) (h : OrdQ l) : Fn Try.prog 15 #[v0] M fun v L' => v = .bool true ∧ L' = M := by
  refine (ordered_F v0 l M hr hl).mono ?_
  rintro v L' ⟨⟨b, hb, rfl⟩, rfl⟩
  exact ⟨by rw [hb.2 (OrdQ.iff.2 h)], rfl⟩
theorem height_nil (c : Clk) (M : List Assn) : Fn Try.prog 18 #[.slice none 0 0, c.val] M fun v L' => v = .int .i64 1 ∧ L' = M := by
  have h := pheight_F (.slice none 0 0) [] c M (RdT.nil _) (by simp) (by simp)
  exact h
set_option maxHeartbeats 4000000 in
theorem shown8_fn (L : List Assn) : Fn Try.prog 10 #[] L fun v L' => v = .bool true ∧ L' = L := by
  refine Fn.of_ex Try.func10 rfl Try.ntmps10 rfl ?_
  (repeat' (first | refine ExL.val rJ rJ rJ rV ?_ | (first | refine Ex.seq ?_ | refine Ex.region ?_ | refine ExL.nil ?_ | refine thn_n ?_ | refine Ex.cond_t rJ ?_ | refine Ex.cond_f rJ ?_ | refine Ex.skip ?_ | refine Ex.block ?_ | refine Ex.exit ?_ | refine Ex.ret ?_ | refine thn_exit ?_ | refine thn_ret ?_ | refine inb_n ?_ | refine inb_hit rJ ?_ | refine inb_miss rJ ?_ | refine inb_ret ?_ | refine rnd_exit ?_ | refine rnd_ret ?_ | refine meet_ret ?_ | refine meet_exit ?_) | (apply exlGuard; first | refine ExL.gskip rJ rJ rJ rJ rJ rJ ?_ | refine ExL.gtake rJ rJ rJ rJ ?_ | refine ExL.gskipU rJ rJ rJ rJ ?_ | (refine ExL.gsplit rJ rJ rJ (fun h => ?_) (fun h => ?_) <;> try (exfalso; omega))) | (first | refine st_new_ rJ rE (fun g => ?_) | refine st_boxA rJ rJ (fun g => ?_) | refine st_box1 rJ rE rN (fun g => ?_) | (apply exlStore; first | refine st_store1_ _ rJ rK rE rN rJ rJ rE rE ?_ | refine st_storeW_ _ rJ rK rJ rC rJ rJ rJ rE ?_ | refine st_storeR _ rJ rK rJ rE rJ rJ rE ?_ | refine st_storeA_ _ rJ rK rJ rC rJ rJ rJ rE rE ?_ | refine st_storeB _ rJ rJ rO rO rK rJ rO ?_ | refine st_storeG _ rJ rK rE rN rJ rO (fun cs hcs => ?_)) | refine st_slice0 rJ rJ rJ rJ (fun g => ?_) | refine st_slice1T rJ rJ rJ rJ (fun g => ?_) | refine st_makeT rJ rJ rJ rJ rE rJ rO rO (fun v o => ?_) | (apply exlCopy; first | refine st_copyW _ rJ rE rK rE rD rJ rE rJ (fun zs hzs => ?_) | refine st_copyS _ rJ rJ rK rE rD rJ rE rJ rO rO (fun zs hzs => ?_)) | refine st_sliceB rJ rJ rJ rJ rJ rJ rJ rL rE rE rJ (fun g => ?_) | refine st_slice1I rJ rJ rJ rJ rJ rJ (fun g => ?_) | refine st_slice1B rJ rJ rJ rJ rJ rJ rO rO (fun g => ?_) | refine st_slice1S rJ rJ rJ rJ rJ rJ (fun g => ?_) | refine st_slice2B rJ rJ rJ rJ rJ rJ rJ rO rO rO rO (fun g => ?_) | (apply exlConv; first | refine st_bytes rJ rJ rJ rJ rJ rO (fun v o => ?_) | refine st_mark _ rJ rJ rK rJ rJ rJ ?_) | refine st_clear _ (0 : UInt8) rJ rK rJ rJ rJ rJ rJ rO ?_ | refine st_clearT _ rJ rK rO rJ rJ rO rE ?_ | (apply exlAppend; first | refine st_app0 rJ rJ rE rD rJ rE rJ rE rJ rJ rJ rO (fun v o => ?_) | refine st_app _ rJ rE rK rE rD rJ rE rJ rE rJ rJ rJ rO (fun v o => ?_) | refine st_shift _ rJ rJ rJ rK rO rJ rJ rJ rO rO rE ?_)) | (refine Ex.cond_d rJ (fun h => ?_) (fun h => ?_) <;> try (exfalso; omega))))
  refine st_slice1T (a := one8) rJ rJ rJ rJ (fun g => ?_)
  (repeat' (first | refine ExL.val rJ rJ rJ rV ?_ | (first | refine Ex.seq ?_ | refine Ex.region ?_ | refine ExL.nil ?_ | refine thn_n ?_ | refine Ex.cond_t rJ ?_ | refine Ex.cond_f rJ ?_ | refine Ex.skip ?_ | refine Ex.block ?_ | refine Ex.exit ?_ | refine Ex.ret ?_ | refine thn_exit ?_ | refine thn_ret ?_ | refine inb_n ?_ | refine inb_hit rJ ?_ | refine inb_miss rJ ?_ | refine inb_ret ?_ | refine rnd_exit ?_ | refine rnd_ret ?_ | refine meet_ret ?_ | refine meet_exit ?_) | (apply exlGuard; first | refine ExL.gskip rJ rJ rJ rJ rJ rJ ?_ | refine ExL.gtake rJ rJ rJ rJ ?_ | refine ExL.gskipU rJ rJ rJ rJ ?_ | (refine ExL.gsplit rJ rJ rJ (fun h => ?_) (fun h => ?_) <;> try (exfalso; omega))) | (first | refine st_new_ rJ rE (fun g => ?_) | refine st_boxA rJ rJ (fun g => ?_) | refine st_box1 rJ rE rN (fun g => ?_) | (apply exlStore; first | refine st_store1_ _ rJ rK rE rN rJ rJ rE rE ?_ | refine st_storeW_ _ rJ rK rJ rC rJ rJ rJ rE ?_ | refine st_storeR _ rJ rK rJ rE rJ rJ rE ?_ | refine st_storeA_ _ rJ rK rJ rC rJ rJ rJ rE rE ?_ | refine st_storeB _ rJ rJ rO rO rK rJ rO ?_ | refine st_storeG _ rJ rK rE rN rJ rO (fun cs hcs => ?_)) | refine st_slice0 rJ rJ rJ rJ (fun g => ?_) | refine st_slice1T rJ rJ rJ rJ (fun g => ?_) | refine st_makeT rJ rJ rJ rJ rE rJ rO rO (fun v o => ?_) | (apply exlCopy; first | refine st_copyW _ rJ rE rK rE rD rJ rE rJ (fun zs hzs => ?_) | refine st_copyS _ rJ rJ rK rE rD rJ rE rJ rO rO (fun zs hzs => ?_)) | refine st_sliceB rJ rJ rJ rJ rJ rJ rJ rL rE rE rJ (fun g => ?_) | refine st_slice1I rJ rJ rJ rJ rJ rJ (fun g => ?_) | refine st_slice1B rJ rJ rJ rJ rJ rJ rO rO (fun g => ?_) | refine st_slice1S rJ rJ rJ rJ rJ rJ (fun g => ?_) | refine st_slice2B rJ rJ rJ rJ rJ rJ rJ rO rO rO rO (fun g => ?_) | (apply exlConv; first | refine st_bytes rJ rJ rJ rJ rJ rO (fun v o => ?_) | refine st_mark _ rJ rJ rK rJ rJ rJ ?_) | refine st_clear _ (0 : UInt8) rJ rK rJ rJ rJ rJ rJ rO ?_ | refine st_clearT _ rJ rK rO rJ rJ rO rE ?_ | (apply exlAppend; first | refine st_app0 rJ rJ rE rD rJ rE rJ rE rJ rJ rJ rO (fun v o => ?_) | refine st_app _ rJ rE rK rE rD rJ rE rJ rE rJ rJ rJ rO (fun v o => ?_) | refine st_shift _ rJ rJ rJ rK rO rJ rJ rJ rO rO rE ?_)) | (refine Ex.cond_d rJ (fun h => ?_) (fun h => ?_) <;> try (exfalso; omega))))
  refine st_callIs [] rJ Try.call14 rJ rJ (right_yes _ [one8] _ rD (by simp) one8_good.right) ?_
  rintro _ _ ⟨rfl, rfl⟩
  (repeat' (first | refine ExL.val rJ rJ rJ rV ?_ | (first | refine Ex.seq ?_ | refine Ex.region ?_ | refine ExL.nil ?_ | refine thn_n ?_ | refine Ex.cond_t rJ ?_ | refine Ex.cond_f rJ ?_ | refine Ex.skip ?_ | refine Ex.block ?_ | refine Ex.exit ?_ | refine Ex.ret ?_ | refine thn_exit ?_ | refine thn_ret ?_ | refine inb_n ?_ | refine inb_hit rJ ?_ | refine inb_miss rJ ?_ | refine inb_ret ?_ | refine rnd_exit ?_ | refine rnd_ret ?_ | refine meet_ret ?_ | refine meet_exit ?_) | (apply exlGuard; first | refine ExL.gskip rJ rJ rJ rJ rJ rJ ?_ | refine ExL.gtake rJ rJ rJ rJ ?_ | refine ExL.gskipU rJ rJ rJ rJ ?_ | (refine ExL.gsplit rJ rJ rJ (fun h => ?_) (fun h => ?_) <;> try (exfalso; omega))) | (first | refine st_new_ rJ rE (fun g => ?_) | refine st_boxA rJ rJ (fun g => ?_) | refine st_box1 rJ rE rN (fun g => ?_) | (apply exlStore; first | refine st_store1_ _ rJ rK rE rN rJ rJ rE rE ?_ | refine st_storeW_ _ rJ rK rJ rC rJ rJ rJ rE ?_ | refine st_storeR _ rJ rK rJ rE rJ rJ rE ?_ | refine st_storeA_ _ rJ rK rJ rC rJ rJ rJ rE rE ?_ | refine st_storeB _ rJ rJ rO rO rK rJ rO ?_ | refine st_storeG _ rJ rK rE rN rJ rO (fun cs hcs => ?_)) | refine st_slice0 rJ rJ rJ rJ (fun g => ?_) | refine st_slice1T rJ rJ rJ rJ (fun g => ?_) | refine st_makeT rJ rJ rJ rJ rE rJ rO rO (fun v o => ?_) | (apply exlCopy; first | refine st_copyW _ rJ rE rK rE rD rJ rE rJ (fun zs hzs => ?_) | refine st_copyS _ rJ rJ rK rE rD rJ rE rJ rO rO (fun zs hzs => ?_)) | refine st_sliceB rJ rJ rJ rJ rJ rJ rJ rL rE rE rJ (fun g => ?_) | refine st_slice1I rJ rJ rJ rJ rJ rJ (fun g => ?_) | refine st_slice1B rJ rJ rJ rJ rJ rJ rO rO (fun g => ?_) | refine st_slice1S rJ rJ rJ rJ rJ rJ (fun g => ?_) | refine st_slice2B rJ rJ rJ rJ rJ rJ rJ rO rO rO rO (fun g => ?_) | (apply exlConv; first | refine st_bytes rJ rJ rJ rJ rJ rO (fun v o => ?_) | refine st_mark _ rJ rJ rK rJ rJ rJ ?_) | refine st_clear _ (0 : UInt8) rJ rK rJ rJ rJ rJ rJ rO ?_ | refine st_clearT _ rJ rK rO rJ rJ rO rE ?_ | (apply exlAppend; first | refine st_app0 rJ rJ rE rD rJ rE rJ rE rJ rJ rJ rO (fun v o => ?_) | refine st_app _ rJ rE rK rE rD rJ rE rJ rE rJ rJ rJ rO (fun v o => ?_) | refine st_shift _ rJ rJ rJ rK rO rJ rJ rJ rO rO rE ?_)) | (refine Ex.cond_d rJ (fun h => ?_) (fun h => ?_) <;> try (exfalso; omega))))
  refine st_callIs [] rJ Try.call15 rJ rJ (ordered_yes _ [one8] _ rD (by simp) one8_good.ord) ?_
  rintro _ _ ⟨rfl, rfl⟩
  (repeat' (first | refine ExL.val rJ rJ rJ rV ?_ | (first | refine Ex.seq ?_ | refine Ex.region ?_ | refine ExL.nil ?_ | refine thn_n ?_ | refine Ex.cond_t rJ ?_ | refine Ex.cond_f rJ ?_ | refine Ex.skip ?_ | refine Ex.block ?_ | refine Ex.exit ?_ | refine Ex.ret ?_ | refine thn_exit ?_ | refine thn_ret ?_ | refine inb_n ?_ | refine inb_hit rJ ?_ | refine inb_miss rJ ?_ | refine inb_ret ?_ | refine rnd_exit ?_ | refine rnd_ret ?_ | refine meet_ret ?_ | refine meet_exit ?_) | (apply exlGuard; first | refine ExL.gskip rJ rJ rJ rJ rJ rJ ?_ | refine ExL.gtake rJ rJ rJ rJ ?_ | refine ExL.gskipU rJ rJ rJ rJ ?_ | (refine ExL.gsplit rJ rJ rJ (fun h => ?_) (fun h => ?_) <;> try (exfalso; omega))) | (first | refine st_new_ rJ rE (fun g => ?_) | refine st_boxA rJ rJ (fun g => ?_) | refine st_box1 rJ rE rN (fun g => ?_) | (apply exlStore; first | refine st_store1_ _ rJ rK rE rN rJ rJ rE rE ?_ | refine st_storeW_ _ rJ rK rJ rC rJ rJ rJ rE ?_ | refine st_storeR _ rJ rK rJ rE rJ rJ rE ?_ | refine st_storeA_ _ rJ rK rJ rC rJ rJ rJ rE rE ?_ | refine st_storeB _ rJ rJ rO rO rK rJ rO ?_ | refine st_storeG _ rJ rK rE rN rJ rO (fun cs hcs => ?_)) | refine st_slice0 rJ rJ rJ rJ (fun g => ?_) | refine st_slice1T rJ rJ rJ rJ (fun g => ?_) | refine st_makeT rJ rJ rJ rJ rE rJ rO rO (fun v o => ?_) | (apply exlCopy; first | refine st_copyW _ rJ rE rK rE rD rJ rE rJ (fun zs hzs => ?_) | refine st_copyS _ rJ rJ rK rE rD rJ rE rJ rO rO (fun zs hzs => ?_)) | refine st_sliceB rJ rJ rJ rJ rJ rJ rJ rL rE rE rJ (fun g => ?_) | refine st_slice1I rJ rJ rJ rJ rJ rJ (fun g => ?_) | refine st_slice1B rJ rJ rJ rJ rJ rJ rO rO (fun g => ?_) | refine st_slice1S rJ rJ rJ rJ rJ rJ (fun g => ?_) | refine st_slice2B rJ rJ rJ rJ rJ rJ rJ rO rO rO rO (fun g => ?_) | (apply exlConv; first | refine st_bytes rJ rJ rJ rJ rJ rO (fun v o => ?_) | refine st_mark _ rJ rJ rK rJ rJ rJ ?_) | refine st_clear _ (0 : UInt8) rJ rK rJ rJ rJ rJ rJ rO ?_ | refine st_clearT _ rJ rK rO rJ rJ rO rE ?_ | (apply exlAppend; first | refine st_app0 rJ rJ rE rD rJ rE rJ rE rJ rJ rJ rO (fun v o => ?_) | refine st_app _ rJ rE rK rE rD rJ rE rJ rE rJ rJ rJ rO (fun v o => ?_) | refine st_shift _ rJ rJ rJ rK rO rJ rJ rJ rO rO rE ?_)) | (refine Ex.cond_d rJ (fun h => ?_) (fun h => ?_) <;> try (exfalso; omega))))
  refine st_callIs [] rJ Try.call14 rJ rJ (right_yes _ [] _ (RdT.nil _) (by simp) RightQ.nil) ?_
  rintro _ _ ⟨rfl, rfl⟩
  (repeat' (first | refine ExL.val rJ rJ rJ rV ?_ | (first | refine Ex.seq ?_ | refine Ex.region ?_ | refine ExL.nil ?_ | refine thn_n ?_ | refine Ex.cond_t rJ ?_ | refine Ex.cond_f rJ ?_ | refine Ex.skip ?_ | refine Ex.block ?_ | refine Ex.exit ?_ | refine Ex.ret ?_ | refine thn_exit ?_ | refine thn_ret ?_ | refine inb_n ?_ | refine inb_hit rJ ?_ | refine inb_miss rJ ?_ | refine inb_ret ?_ | refine rnd_exit ?_ | refine rnd_ret ?_ | refine meet_ret ?_ | refine meet_exit ?_) | (apply exlGuard; first | refine ExL.gskip rJ rJ rJ rJ rJ rJ ?_ | refine ExL.gtake rJ rJ rJ rJ ?_ | refine ExL.gskipU rJ rJ rJ rJ ?_ | (refine ExL.gsplit rJ rJ rJ (fun h => ?_) (fun h => ?_) <;> try (exfalso; omega))) | (first | refine st_new_ rJ rE (fun g => ?_) | refine st_boxA rJ rJ (fun g => ?_) | refine st_box1 rJ rE rN (fun g => ?_) | (apply exlStore; first | refine st_store1_ _ rJ rK rE rN rJ rJ rE rE ?_ | refine st_storeW_ _ rJ rK rJ rC rJ rJ rJ rE ?_ | refine st_storeR _ rJ rK rJ rE rJ rJ rE ?_ | refine st_storeA_ _ rJ rK rJ rC rJ rJ rJ rE rE ?_ | refine st_storeB _ rJ rJ rO rO rK rJ rO ?_ | refine st_storeG _ rJ rK rE rN rJ rO (fun cs hcs => ?_)) | refine st_slice0 rJ rJ rJ rJ (fun g => ?_) | refine st_slice1T rJ rJ rJ rJ (fun g => ?_) | refine st_makeT rJ rJ rJ rJ rE rJ rO rO (fun v o => ?_) | (apply exlCopy; first | refine st_copyW _ rJ rE rK rE rD rJ rE rJ (fun zs hzs => ?_) | refine st_copyS _ rJ rJ rK rE rD rJ rE rJ rO rO (fun zs hzs => ?_)) | refine st_sliceB rJ rJ rJ rJ rJ rJ rJ rL rE rE rJ (fun g => ?_) | refine st_slice1I rJ rJ rJ rJ rJ rJ (fun g => ?_) | refine st_slice1B rJ rJ rJ rJ rJ rJ rO rO (fun g => ?_) | refine st_slice1S rJ rJ rJ rJ rJ rJ (fun g => ?_) | refine st_slice2B rJ rJ rJ rJ rJ rJ rJ rO rO rO rO (fun g => ?_) | (apply exlConv; first | refine st_bytes rJ rJ rJ rJ rJ rO (fun v o => ?_) | refine st_mark _ rJ rJ rK rJ rJ rJ ?_) | refine st_clear _ (0 : UInt8) rJ rK rJ rJ rJ rJ rJ rO ?_ | refine st_clearT _ rJ rK rO rJ rJ rO rE ?_ | (apply exlAppend; first | refine st_app0 rJ rJ rE rD rJ rE rJ rE rJ rJ rJ rO (fun v o => ?_) | refine st_app _ rJ rE rK rE rD rJ rE rJ rE rJ rJ rJ rO (fun v o => ?_) | refine st_shift _ rJ rJ rJ rK rO rJ rJ rJ rO rO rE ?_)) | (refine Ex.cond_d rJ (fun h => ?_) (fun h => ?_) <;> try (exfalso; omega))))
  refine st_callIs [] rJ Try.call15 rJ rJ (ordered_yes _ [] _ (RdT.nil _) (by simp) OrdQ.nil) ?_
  rintro _ _ ⟨rfl, rfl⟩
  (repeat' (first | refine ExL.val rJ rJ rJ rV ?_ | (first | refine Ex.seq ?_ | refine Ex.region ?_ | refine ExL.nil ?_ | refine thn_n ?_ | refine Ex.cond_t rJ ?_ | refine Ex.cond_f rJ ?_ | refine Ex.skip ?_ | refine Ex.block ?_ | refine Ex.exit ?_ | refine Ex.ret ?_ | refine thn_exit ?_ | refine thn_ret ?_ | refine inb_n ?_ | refine inb_hit rJ ?_ | refine inb_miss rJ ?_ | refine inb_ret ?_ | refine rnd_exit ?_ | refine rnd_ret ?_ | refine meet_ret ?_ | refine meet_exit ?_) | (apply exlGuard; first | refine ExL.gskip rJ rJ rJ rJ rJ rJ ?_ | refine ExL.gtake rJ rJ rJ rJ ?_ | refine ExL.gskipU rJ rJ rJ rJ ?_ | (refine ExL.gsplit rJ rJ rJ (fun h => ?_) (fun h => ?_) <;> try (exfalso; omega))) | (first | refine st_new_ rJ rE (fun g => ?_) | refine st_boxA rJ rJ (fun g => ?_) | refine st_box1 rJ rE rN (fun g => ?_) | (apply exlStore; first | refine st_store1_ _ rJ rK rE rN rJ rJ rE rE ?_ | refine st_storeW_ _ rJ rK rJ rC rJ rJ rJ rE ?_ | refine st_storeR _ rJ rK rJ rE rJ rJ rE ?_ | refine st_storeA_ _ rJ rK rJ rC rJ rJ rJ rE rE ?_ | refine st_storeB _ rJ rJ rO rO rK rJ rO ?_ | refine st_storeG _ rJ rK rE rN rJ rO (fun cs hcs => ?_)) | refine st_slice0 rJ rJ rJ rJ (fun g => ?_) | refine st_slice1T rJ rJ rJ rJ (fun g => ?_) | refine st_makeT rJ rJ rJ rJ rE rJ rO rO (fun v o => ?_) | (apply exlCopy; first | refine st_copyW _ rJ rE rK rE rD rJ rE rJ (fun zs hzs => ?_) | refine st_copyS _ rJ rJ rK rE rD rJ rE rJ rO rO (fun zs hzs => ?_)) | refine st_sliceB rJ rJ rJ rJ rJ rJ rJ rL rE rE rJ (fun g => ?_) | refine st_slice1I rJ rJ rJ rJ rJ rJ (fun g => ?_) | refine st_slice1B rJ rJ rJ rJ rJ rJ rO rO (fun g => ?_) | refine st_slice1S rJ rJ rJ rJ rJ rJ (fun g => ?_) | refine st_slice2B rJ rJ rJ rJ rJ rJ rJ rO rO rO rO (fun g => ?_) | (apply exlConv; first | refine st_bytes rJ rJ rJ rJ rJ rO (fun v o => ?_) | refine st_mark _ rJ rJ rK rJ rJ rJ ?_) | refine st_clear _ (0 : UInt8) rJ rK rJ rJ rJ rJ rJ rO ?_ | refine st_clearT _ rJ rK rO rJ rJ rO rE ?_ | (apply exlAppend; first | refine st_app0 rJ rJ rE rD rJ rE rJ rE rJ rJ rJ rO (fun v o => ?_) | refine st_app _ rJ rE rK rE rD rJ rE rJ rE rJ rJ rJ rO (fun v o => ?_) | refine st_shift _ rJ rJ rJ rK rO rJ rJ rJ rO rO rE ?_)) | (refine Ex.cond_d rJ (fun h => ?_) (fun h => ?_) <;> try (exfalso; omega))))
  refine st_callIs [] rJ Try.call18 rJ rJ (height_nil ⟨0, 0, 0, 0, 0⟩ _) ?_
  rintro _ _ ⟨rfl, rfl⟩
  (repeat' (first | refine ExL.val rJ rJ rJ rV ?_ | (first | refine Ex.seq ?_ | refine Ex.region ?_ | refine ExL.nil ?_ | refine thn_n ?_ | refine Ex.cond_t rJ ?_ | refine Ex.cond_f rJ ?_ | refine Ex.skip ?_ | refine Ex.block ?_ | refine Ex.exit ?_ | refine Ex.ret ?_ | refine thn_exit ?_ | refine thn_ret ?_ | refine inb_n ?_ | refine inb_hit rJ ?_ | refine inb_miss rJ ?_ | refine inb_ret ?_ | refine rnd_exit ?_ | refine rnd_ret ?_ | refine meet_ret ?_ | refine meet_exit ?_) | (apply exlGuard; first | refine ExL.gskip rJ rJ rJ rJ rJ rJ ?_ | refine ExL.gtake rJ rJ rJ rJ ?_ | refine ExL.gskipU rJ rJ rJ rJ ?_ | (refine ExL.gsplit rJ rJ rJ (fun h => ?_) (fun h => ?_) <;> try (exfalso; omega))) | (first | refine st_new_ rJ rE (fun g => ?_) | refine st_boxA rJ rJ (fun g => ?_) | refine st_box1 rJ rE rN (fun g => ?_) | (apply exlStore; first | refine st_store1_ _ rJ rK rE rN rJ rJ rE rE ?_ | refine st_storeW_ _ rJ rK rJ rC rJ rJ rJ rE ?_ | refine st_storeR _ rJ rK rJ rE rJ rJ rE ?_ | refine st_storeA_ _ rJ rK rJ rC rJ rJ rJ rE rE ?_ | refine st_storeB _ rJ rJ rO rO rK rJ rO ?_ | refine st_storeG _ rJ rK rE rN rJ rO (fun cs hcs => ?_)) | refine st_slice0 rJ rJ rJ rJ (fun g => ?_) | refine st_slice1T rJ rJ rJ rJ (fun g => ?_) | refine st_makeT rJ rJ rJ rJ rE rJ rO rO (fun v o => ?_) | (apply exlCopy; first | refine st_copyW _ rJ rE rK rE rD rJ rE rJ (fun zs hzs => ?_) | refine st_copyS _ rJ rJ rK rE rD rJ rE rJ rO rO (fun zs hzs => ?_)) | refine st_sliceB rJ rJ rJ rJ rJ rJ rJ rL rE rE rJ (fun g => ?_) | refine st_slice1I rJ rJ rJ rJ rJ rJ (fun g => ?_) | refine st_slice1B rJ rJ rJ rJ rJ rJ rO rO (fun g => ?_) | refine st_slice1S rJ rJ rJ rJ rJ rJ (fun g => ?_) | refine st_slice2B rJ rJ rJ rJ rJ rJ rJ rO rO rO rO (fun g => ?_) | (apply exlConv; first | refine st_bytes rJ rJ rJ rJ rJ rO (fun v o => ?_) | refine st_mark _ rJ rJ rK rJ rJ rJ ?_) | refine st_clear _ (0 : UInt8) rJ rK rJ rJ rJ rJ rJ rO ?_ | refine st_clearT _ rJ rK rO rJ rJ rO rE ?_ | (apply exlAppend; first | refine st_app0 rJ rJ rE rD rJ rE rJ rE rJ rJ rJ rO (fun v o => ?_) | refine st_app _ rJ rE rK rE rD rJ rE rJ rE rJ rJ rJ rO (fun v o => ?_) | refine st_shift _ rJ rJ rJ rK rO rJ rJ rJ rO rO rE ?_)) | (refine Ex.cond_d rJ (fun h => ?_) (fun h => ?_) <;> try (exfalso; omega))))
  (first | refine fin_ret rS ?_ | refine fin_norm rS ?_)
  exact ⟨_, rB, rfl, rfl⟩
theorem short8_F (v0 : Value) (l : List Ch) (M : List Assn) (hr : RdT M v0 l) : Fn Try.prog 12 #[v0] M fun v L' => RdT M v (l.take 40) ∧ L' = M := by
  refine Fn.of_ex Try.func12 rfl Try.ntmps12 rfl ?_
  (repeat' (first | refine ExL.val rJ rJ rJ rV ?_ | (first | refine Ex.seq ?_ | refine Ex.region ?_ | refine ExL.nil ?_ | refine thn_n ?_ | refine Ex.cond_t rJ ?_ | refine Ex.cond_f rJ ?_ | refine Ex.skip ?_ | refine Ex.block ?_ | refine Ex.exit ?_ | refine Ex.ret ?_ | refine thn_exit ?_ | refine thn_ret ?_ | refine inb_n ?_ | refine inb_hit rJ ?_ | refine inb_miss rJ ?_ | refine inb_ret ?_ | refine rnd_exit ?_ | refine rnd_ret ?_ | refine meet_ret ?_ | refine meet_exit ?_) | (apply exlGuard; first | refine ExL.gskip rJ rJ rJ rJ rJ rJ ?_ | refine ExL.gtake rJ rJ rJ rJ ?_ | refine ExL.gskipU rJ rJ rJ rJ ?_ | (refine ExL.gsplit rJ rJ rJ (fun h => ?_) (fun h => ?_) <;> try (exfalso; omega))) | (first | refine st_new_ rJ rE (fun g => ?_) | refine st_boxA rJ rJ (fun g => ?_) | refine st_box1 rJ rE rN (fun g => ?_) | (apply exlStore; first | refine st_store1_ _ rJ rK rE rN rJ rJ rE rE ?_ | refine st_storeW_ _ rJ rK rJ rC rJ rJ rJ rE ?_ | refine st_storeR _ rJ rK rJ rE rJ rJ rE ?_ | refine st_storeA_ _ rJ rK rJ rC rJ rJ rJ rE rE ?_ | refine st_storeB _ rJ rJ rO rO rK rJ rO ?_ | refine st_storeG _ rJ rK rE rN rJ rO (fun cs hcs => ?_)) | refine st_slice0 rJ rJ rJ rJ (fun g => ?_) | refine st_slice1T rJ rJ rJ rJ (fun g => ?_) | refine st_makeT rJ rJ rJ rJ rE rJ rO rO (fun v o => ?_) | (apply exlCopy; first | refine st_copyW _ rJ rE rK rE rD rJ rE rJ (fun zs hzs => ?_) | refine st_copyS _ rJ rJ rK rE rD rJ rE rJ rO rO (fun zs hzs => ?_)) | refine st_sliceB rJ rJ rJ rJ rJ rJ rJ rL rE rE rJ (fun g => ?_) | refine st_slice1I rJ rJ rJ rJ rJ rJ (fun g => ?_) | refine st_slice1B rJ rJ rJ rJ rJ rJ rO rO (fun g => ?_) | refine st_slice1S rJ rJ rJ rJ rJ rJ (fun g => ?_) | refine st_slice2B rJ rJ rJ rJ rJ rJ rJ rO rO rO rO (fun g => ?_) | (apply exlConv; first | refine st_bytes rJ rJ rJ rJ rJ rO (fun v o => ?_) | refine st_mark _ rJ rJ rK rJ rJ rJ ?_) | refine st_clear _ (0 : UInt8) rJ rK rJ rJ rJ rJ rJ rO ?_ | refine st_clearT _ rJ rK rO rJ rJ rO rE ?_ | (apply exlAppend; first | refine st_app0 rJ rJ rE rD rJ rE rJ rE rJ rJ rJ rO (fun v o => ?_) | refine st_app _ rJ rE rK rE rD rJ rE rJ rE rJ rJ rJ rO (fun v o => ?_) | refine st_shift _ rJ rJ rJ rK rO rJ rJ rJ rO rO rE ?_)) | (refine Ex.cond_d rJ (fun h => ?_) (fun h => ?_) <;> try (exfalso; omega))))
  (first | refine fin_ret rS ?_ | refine fin_norm rS ?_)
  refine ⟨_, rB, ?_, rfl⟩
  have h : l.take 40 = l.take (min (l.length : Int) 40).toNat := by
    by_cases hl : l.length ≤ 40
    · rw [List.take_of_length_le hl, List.take_of_length_le (by omega)]
    · congr 1; omega
  rw [h]
  exact rD
end Go.Proofs.Ytcclbplccnaonaa
/- kithlaw08.few, walked. No condition. -/
namespace Go.Proofs.Ytcclbplccnaonaa
open Go.RowKit
set_option linter.unusedSimpArgs false
set_option linter.unusedVariables false
/-- Clocks that few leaves. -/
def Few (e : Ev) : Prop := (-40 < e.c.a ∧ e.c.a < 40) ∧ (-40 < e.c.b ∧ e.c.b < 40) ∧ (-40 < e.c.c ∧ e.c.c < 40) ∧ (-40 < e.c.d ∧ e.c.d < 40) ∧ (-40 < e.c.e ∧ e.c.e < 40)
theorem tmod40 (x : Int) : -40 < x.tmod 40 ∧ x.tmod 40 < 40 := by
  rcases Int.le_total 0 x with h | h
  · rw [Int.tmod_eq_emod_of_nonneg h]; omega
  · have := Int.tmod_eq_emod (a := x) (b := 40)
    have h2 := Int.tmod_lt_of_pos x (show (0 : Int) < 40 by omega)
    have h3 := Int.neg_tmod x 40
    have h4 := Int.tmod_lt_of_pos (-x) (show (0 : Int) < 40 by omega)
    omega
theorem few_step {c : Clk} {k : Nat} (h : ∀ j, j < k → -40 < c.get j ∧ c.get j < 40) (hk : k < 5) : ∀ j, j < k + 1 → -40 < (c.set k ((c.get k).tmod 40)).get j ∧ (c.set k ((c.get k).tmod 40)).get j < 40 := fun j hj => by
  rw [Clk.get_set _ _ _ _ (by omega)]
  split
  · exact tmod40 _
  · exact h j (by omega)
set_option maxRecDepth 20000 attribute [local irreducible] Ex ExL Fn thn inb rnd fin meet Tab Mix mxEnd Val Sats RdT Rd RowT Row Blk Sub Fac ResV RVal Evs subs subs3 Hid Capd
set_option maxHeartbeats 4000000 in
theorem few8_F (v0 : Value) (l : List Ev) (M : List Assn) (hr : RdT M v0 l) : Fn Try.prog 19 #[v0] M fun v L' => v.oneCell' = true ∧ ∃ w : List Ev, w.length ≤ 30 ∧ (∀ e ∈ w, Few e ∧ ∃ e0 ∈ l, ∃ c, e = { e0 with c := c }) ∧ L' = Evs_ v w :: M := by
  refine Fn.of_ex Try.func19 rfl Try.ntmps19 rfl ?_
  (repeat' (first | refine ExL.val rJ rJ rJ rV ?_ | (first | refine Ex.seq ?_ | refine Ex.region ?_ | refine ExL.nil ?_ | refine thn_n ?_ | refine Ex.cond_t rJ ?_ | refine Ex.cond_f rJ ?_ | refine Ex.skip ?_ | refine Ex.block ?_ | refine Ex.exit ?_ | refine Ex.ret ?_ | refine thn_exit ?_ | refine thn_ret ?_ | refine inb_n ?_ | refine inb_hit rJ ?_ | refine inb_miss rJ ?_ | refine inb_ret ?_ | refine rnd_exit ?_ | refine rnd_ret ?_ | refine meet_ret ?_ | refine meet_exit ?_) | (apply exlGuard; first | refine ExL.gskip rJ rJ rJ rJ rJ rJ ?_ | refine ExL.gtake rJ rJ rJ rJ ?_ | refine ExL.gskipU rJ rJ rJ rJ ?_ | (refine ExL.gsplit rJ rJ rJ (fun h => ?_) (fun h => ?_) <;> try (exfalso; omega))) | (first | refine st_new_ rJ rE (fun g => ?_) | refine st_boxA rJ rJ (fun g => ?_) | refine st_box1 rJ rE rN (fun g => ?_) | (apply exlStore; first | refine st_store1_ _ rJ rK rE rN rJ rJ rE rE ?_ | refine st_storeW_ _ rJ rK rJ rC rJ rJ rJ rE ?_ | refine st_storeR _ rJ rK rJ rE rJ rJ rE ?_ | refine st_storeA_ _ rJ rK rJ rC rJ rJ rJ rE rE ?_ | refine st_storeB _ rJ rJ rO rO rK rJ rO ?_ | refine st_storeG _ rJ rK rE rN rJ rO (fun cs hcs => ?_)) | refine st_slice0 rJ rJ rJ rJ (fun g => ?_) | refine st_slice1T rJ rJ rJ rJ (fun g => ?_) | refine st_makeT rJ rJ rJ rJ rE rJ rO rO (fun v o => ?_) | (apply exlCopy; first | refine st_copyW _ rJ rE rK rE rD rJ rE rJ (fun zs hzs => ?_) | refine st_copyS _ rJ rJ rK rE rD rJ rE rJ rO rO (fun zs hzs => ?_)) | refine st_sliceB rJ rJ rJ rJ rJ rJ rJ rL rE rE rJ (fun g => ?_) | refine st_slice1I rJ rJ rJ rJ rJ rJ (fun g => ?_) | refine st_slice1B rJ rJ rJ rJ rJ rJ rO rO (fun g => ?_) | refine st_slice1S rJ rJ rJ rJ rJ rJ (fun g => ?_) | refine st_slice2B rJ rJ rJ rJ rJ rJ rJ rO rO rO rO (fun g => ?_) | (apply exlConv; first | refine st_bytes rJ rJ rJ rJ rJ rO (fun v o => ?_) | refine st_mark _ rJ rJ rK rJ rJ rJ ?_) | refine st_clear _ (0 : UInt8) rJ rK rJ rJ rJ rJ rJ rO ?_ | refine st_clearT _ rJ rK rO rJ rJ rO rE ?_ | (apply exlAppend; first | refine st_app0 rJ rJ rE rD rJ rE rJ rE rJ rJ rJ rO (fun v o => ?_) | refine st_app _ rJ rE rK rE rD rJ rE rJ rE rJ rJ rJ rO (fun v o => ?_) | refine st_shift _ rJ rJ rJ rK rO rJ rJ rJ rO rO rE ?_)) | (refine Ex.cond_d rJ (fun h => ?_) (fun h => ?_) <;> try (exfalso; omega))))
  refine Ex.sub (L' := Evs_ (.slice (some ⟨g, 0, none⟩) 0 0) [] :: M) ?_ (Sub.empty (α := Ev) (some ⟨g, 0, none⟩) 31 _)
  refine Ex.loop [3, 4] (fun q vs L' => ∃ (i : Nat) (v3 : Value) (w : List Ev), i ≤ 30 ∧ q = 30 - i ∧ w.length ≤ i ∧ (∀ e ∈ w, Few e ∧ ∃ e0 ∈ l, ∃ c, e = { e0 with c := c }) ∧ v3.oneCell' = true ∧ vs = [v3, .int .i64 i] ∧ L' = Evs_ v3 w :: M) 30 ⟨0, _, [], by omega, rfl, by simp, by simp, rfl, rfl, rfl⟩ ?_
  rintro q vs g1 L' ⟨i, v3, w, hi, rfl, hwl, hw, o3, rfl, rfl⟩
  refine Ex.keep [0, 3, 4] rG (fun gk => ?_)
  by_cases hlt : i < l.length ∧ i < 30
  · obtain ⟨h1, h2⟩ := hlt
    obtain ⟨e, he⟩ : ∃ e, e = l[i]'h1 := ⟨_, rfl⟩
    have hel : e ∈ l := by rw [he]; exact List.getElem_mem _
    (repeat' (first | refine ExL.val rJ rJ rJ rV ?_ | (first | refine Ex.seq ?_ | refine Ex.region ?_ | refine ExL.nil ?_ | refine thn_n ?_ | refine Ex.cond_t rJ ?_ | refine Ex.cond_f rJ ?_ | refine Ex.skip ?_ | refine Ex.block ?_ | refine Ex.exit ?_ | refine Ex.ret ?_ | refine thn_exit ?_ | refine thn_ret ?_ | refine inb_n ?_ | refine inb_hit rJ ?_ | refine inb_miss rJ ?_ | refine inb_ret ?_ | refine rnd_exit ?_ | refine rnd_ret ?_ | refine meet_ret ?_ | refine meet_exit ?_) | (apply exlGuard; first | refine ExL.gskip rJ rJ rJ rJ rJ rJ ?_ | refine ExL.gtake rJ rJ rJ rJ ?_ | refine ExL.gskipU rJ rJ rJ rJ ?_ | (refine ExL.gsplit rJ rJ rJ (fun h => ?_) (fun h => ?_) <;> try (exfalso; omega))) | (first | refine st_new_ rJ rE (fun g => ?_) | refine st_boxA rJ rJ (fun g => ?_) | refine st_box1 rJ rE rN (fun g => ?_) | (apply exlStore; first | refine st_store1_ _ rJ rK rE rN rJ rJ rE rE ?_ | refine st_storeW_ _ rJ rK rJ rC rJ rJ rJ rE ?_ | refine st_storeR _ rJ rK rJ rE rJ rJ rE ?_ | refine st_storeA_ _ rJ rK rJ rC rJ rJ rJ rE rE ?_ | refine st_storeB _ rJ rJ rO rO rK rJ rO ?_ | refine st_storeG _ rJ rK rE rN rJ rO (fun cs hcs => ?_)) | refine st_slice0 rJ rJ rJ rJ (fun g => ?_) | refine st_slice1T rJ rJ rJ rJ (fun g => ?_) | refine st_makeT rJ rJ rJ rJ rE rJ rO rO (fun v o => ?_) | (apply exlCopy; first | refine st_copyW _ rJ rE rK rE rD rJ rE rJ (fun zs hzs => ?_) | refine st_copyS _ rJ rJ rK rE rD rJ rE rJ rO rO (fun zs hzs => ?_)) | refine st_sliceB rJ rJ rJ rJ rJ rJ rJ rL rE rE rJ (fun g => ?_) | refine st_slice1I rJ rJ rJ rJ rJ rJ (fun g => ?_) | refine st_slice1B rJ rJ rJ rJ rJ rJ rO rO (fun g => ?_) | refine st_slice1S rJ rJ rJ rJ rJ rJ (fun g => ?_) | refine st_slice2B rJ rJ rJ rJ rJ rJ rJ rO rO rO rO (fun g => ?_) | (apply exlConv; first | refine st_bytes rJ rJ rJ rJ rJ rO (fun v o => ?_) | refine st_mark _ rJ rJ rK rJ rJ rJ ?_) | refine st_clear _ (0 : UInt8) rJ rK rJ rJ rJ rJ rJ rO ?_ | refine st_clearT _ rJ rK rO rJ rJ rO rE ?_ | (apply exlAppend; first | refine st_app0 rJ rJ rE rD rJ rE rJ rE rJ rJ rJ rO (fun v o => ?_) | refine st_app _ rJ rE rK rE rD rJ rE rJ rE rJ rJ rJ rO (fun v o => ?_) | refine st_shift _ rJ rJ rJ rK rO rJ rJ rJ rO rO rE ?_)) | (refine Ex.cond_d rJ (fun h => ?_) (fun h => ?_) <;> try (exfalso; omega))))
    rw [← he]
    revert g
    intro g5
    refine Ex.loop [6] (fun q vs L' => ∃ (k : Nat) (c : Clk), k ≤ 5 ∧ q = 5 - k ∧ (∀ j, j < k → -40 < c.get j ∧ c.get j < 40) ∧ vs = [.int .i64 k] ∧ L' = Blk g5 31 (Rep.cells ({ e with c := c } : Ev)) :: Evs_ v3 w :: M) 5 ⟨0, e.c, by omega, rfl, by omega, rfl, rfl⟩ ?_
    rintro q vs g2 L' ⟨k, c, hk, rfl, hc, rfl, rfl⟩
    refine Ex.keep [0, 3, 4, 5, 6] rG (fun gk => ?_)
    have hk6 : k = 0 ∨ k = 1 ∨ k = 2 ∨ k = 3 ∨ k = 4 ∨ k = 5 := by omega
    rcases hk6 with rfl | rfl | rfl | rfl | rfl | rfl
    · (repeat' (first | refine ExL.val rJ rJ rJ rV ?_ | (first | refine Ex.seq ?_ | refine Ex.region ?_ | refine ExL.nil ?_ | refine thn_n ?_ | refine Ex.cond_t rJ ?_ | refine Ex.cond_f rJ ?_ | refine Ex.skip ?_ | refine Ex.block ?_ | refine Ex.exit ?_ | refine Ex.ret ?_ | refine thn_exit ?_ | refine thn_ret ?_ | refine inb_n ?_ | refine inb_hit rJ ?_ | refine inb_miss rJ ?_ | refine inb_ret ?_ | refine rnd_exit ?_ | refine rnd_ret ?_ | refine meet_ret ?_ | refine meet_exit ?_) | (apply exlGuard; first | refine ExL.gskip rJ rJ rJ rJ rJ rJ ?_ | refine ExL.gtake rJ rJ rJ rJ ?_ | refine ExL.gskipU rJ rJ rJ rJ ?_ | (refine ExL.gsplit rJ rJ rJ (fun h => ?_) (fun h => ?_) <;> try (exfalso; omega))) | (first | refine st_new_ rJ rE (fun g => ?_) | refine st_boxA rJ rJ (fun g => ?_) | refine st_box1 rJ rE rN (fun g => ?_) | (apply exlStore; first | refine st_store1_ _ rJ rK rE rN rJ rJ rE rE ?_ | refine st_storeW_ _ rJ rK rJ rC rJ rJ rJ rE ?_ | refine st_storeR _ rJ rK rJ rE rJ rJ rE ?_ | refine st_storeA_ _ rJ rK rJ rC rJ rJ rJ rE rE ?_ | refine st_storeB _ rJ rJ rO rO rK rJ rO ?_ | refine st_storeG _ rJ rK rE rN rJ rO (fun cs hcs => ?_)) | refine st_slice0 rJ rJ rJ rJ (fun g => ?_) | refine st_slice1T rJ rJ rJ rJ (fun g => ?_) | refine st_makeT rJ rJ rJ rJ rE rJ rO rO (fun v o => ?_) | (apply exlCopy; first | refine st_copyW _ rJ rE rK rE rD rJ rE rJ (fun zs hzs => ?_) | refine st_copyS _ rJ rJ rK rE rD rJ rE rJ rO rO (fun zs hzs => ?_)) | refine st_sliceB rJ rJ rJ rJ rJ rJ rJ rL rE rE rJ (fun g => ?_) | refine st_slice1I rJ rJ rJ rJ rJ rJ (fun g => ?_) | refine st_slice1B rJ rJ rJ rJ rJ rJ rO rO (fun g => ?_) | refine st_slice1S rJ rJ rJ rJ rJ rJ (fun g => ?_) | refine st_slice2B rJ rJ rJ rJ rJ rJ rJ rO rO rO rO (fun g => ?_) | (apply exlConv; first | refine st_bytes rJ rJ rJ rJ rJ rO (fun v o => ?_) | refine st_mark _ rJ rJ rK rJ rJ rJ ?_) | refine st_clear _ (0 : UInt8) rJ rK rJ rJ rJ rJ rJ rO ?_ | refine st_clearT _ rJ rK rO rJ rJ rO rE ?_ | (apply exlAppend; first | refine st_app0 rJ rJ rE rD rJ rE rJ rE rJ rJ rJ rO (fun v o => ?_) | refine st_app _ rJ rE rK rE rD rJ rE rJ rE rJ rJ rJ rO (fun v o => ?_) | refine st_shift _ rJ rJ rJ rK rO rJ rJ rJ rO rO rE ?_)) | (refine Ex.cond_d rJ (fun h => ?_) (fun h => ?_) <;> try (exfalso; omega))))
      exact rnd_n ⟨4, _, by omega, rB, 1, c.set 0 ((c.get 0).tmod 40), by omega, rfl, few_step hc (by omega), lcons (vint (by omega)) rfl, rfl⟩
    · (repeat' (first | refine ExL.val rJ rJ rJ rV ?_ | (first | refine Ex.seq ?_ | refine Ex.region ?_ | refine ExL.nil ?_ | refine thn_n ?_ | refine Ex.cond_t rJ ?_ | refine Ex.cond_f rJ ?_ | refine Ex.skip ?_ | refine Ex.block ?_ | refine Ex.exit ?_ | refine Ex.ret ?_ | refine thn_exit ?_ | refine thn_ret ?_ | refine inb_n ?_ | refine inb_hit rJ ?_ | refine inb_miss rJ ?_ | refine inb_ret ?_ | refine rnd_exit ?_ | refine rnd_ret ?_ | refine meet_ret ?_ | refine meet_exit ?_) | (apply exlGuard; first | refine ExL.gskip rJ rJ rJ rJ rJ rJ ?_ | refine ExL.gtake rJ rJ rJ rJ ?_ | refine ExL.gskipU rJ rJ rJ rJ ?_ | (refine ExL.gsplit rJ rJ rJ (fun h => ?_) (fun h => ?_) <;> try (exfalso; omega))) | (first | refine st_new_ rJ rE (fun g => ?_) | refine st_boxA rJ rJ (fun g => ?_) | refine st_box1 rJ rE rN (fun g => ?_) | (apply exlStore; first | refine st_store1_ _ rJ rK rE rN rJ rJ rE rE ?_ | refine st_storeW_ _ rJ rK rJ rC rJ rJ rJ rE ?_ | refine st_storeR _ rJ rK rJ rE rJ rJ rE ?_ | refine st_storeA_ _ rJ rK rJ rC rJ rJ rJ rE rE ?_ | refine st_storeB _ rJ rJ rO rO rK rJ rO ?_ | refine st_storeG _ rJ rK rE rN rJ rO (fun cs hcs => ?_)) | refine st_slice0 rJ rJ rJ rJ (fun g => ?_) | refine st_slice1T rJ rJ rJ rJ (fun g => ?_) | refine st_makeT rJ rJ rJ rJ rE rJ rO rO (fun v o => ?_) | (apply exlCopy; first | refine st_copyW _ rJ rE rK rE rD rJ rE rJ (fun zs hzs => ?_) | refine st_copyS _ rJ rJ rK rE rD rJ rE rJ rO rO (fun zs hzs => ?_)) | refine st_sliceB rJ rJ rJ rJ rJ rJ rJ rL rE rE rJ (fun g => ?_) | refine st_slice1I rJ rJ rJ rJ rJ rJ (fun g => ?_) | refine st_slice1B rJ rJ rJ rJ rJ rJ rO rO (fun g => ?_) | refine st_slice1S rJ rJ rJ rJ rJ rJ (fun g => ?_) | refine st_slice2B rJ rJ rJ rJ rJ rJ rJ rO rO rO rO (fun g => ?_) | (apply exlConv; first | refine st_bytes rJ rJ rJ rJ rJ rO (fun v o => ?_) | refine st_mark _ rJ rJ rK rJ rJ rJ ?_) | refine st_clear _ (0 : UInt8) rJ rK rJ rJ rJ rJ rJ rO ?_ | refine st_clearT _ rJ rK rO rJ rJ rO rE ?_ | (apply exlAppend; first | refine st_app0 rJ rJ rE rD rJ rE rJ rE rJ rJ rJ rO (fun v o => ?_) | refine st_app _ rJ rE rK rE rD rJ rE rJ rE rJ rJ rJ rO (fun v o => ?_) | refine st_shift _ rJ rJ rJ rK rO rJ rJ rJ rO rO rE ?_)) | (refine Ex.cond_d rJ (fun h => ?_) (fun h => ?_) <;> try (exfalso; omega))))
      exact rnd_n ⟨3, _, by omega, rB, 2, c.set 1 ((c.get 1).tmod 40), by omega, rfl, few_step hc (by omega), lcons (vint (by omega)) rfl, rfl⟩
    · (repeat' (first | refine ExL.val rJ rJ rJ rV ?_ | (first | refine Ex.seq ?_ | refine Ex.region ?_ | refine ExL.nil ?_ | refine thn_n ?_ | refine Ex.cond_t rJ ?_ | refine Ex.cond_f rJ ?_ | refine Ex.skip ?_ | refine Ex.block ?_ | refine Ex.exit ?_ | refine Ex.ret ?_ | refine thn_exit ?_ | refine thn_ret ?_ | refine inb_n ?_ | refine inb_hit rJ ?_ | refine inb_miss rJ ?_ | refine inb_ret ?_ | refine rnd_exit ?_ | refine rnd_ret ?_ | refine meet_ret ?_ | refine meet_exit ?_) | (apply exlGuard; first | refine ExL.gskip rJ rJ rJ rJ rJ rJ ?_ | refine ExL.gtake rJ rJ rJ rJ ?_ | refine ExL.gskipU rJ rJ rJ rJ ?_ | (refine ExL.gsplit rJ rJ rJ (fun h => ?_) (fun h => ?_) <;> try (exfalso; omega))) | (first | refine st_new_ rJ rE (fun g => ?_) | refine st_boxA rJ rJ (fun g => ?_) | refine st_box1 rJ rE rN (fun g => ?_) | (apply exlStore; first | refine st_store1_ _ rJ rK rE rN rJ rJ rE rE ?_ | refine st_storeW_ _ rJ rK rJ rC rJ rJ rJ rE ?_ | refine st_storeR _ rJ rK rJ rE rJ rJ rE ?_ | refine st_storeA_ _ rJ rK rJ rC rJ rJ rJ rE rE ?_ | refine st_storeB _ rJ rJ rO rO rK rJ rO ?_ | refine st_storeG _ rJ rK rE rN rJ rO (fun cs hcs => ?_)) | refine st_slice0 rJ rJ rJ rJ (fun g => ?_) | refine st_slice1T rJ rJ rJ rJ (fun g => ?_) | refine st_makeT rJ rJ rJ rJ rE rJ rO rO (fun v o => ?_) | (apply exlCopy; first | refine st_copyW _ rJ rE rK rE rD rJ rE rJ (fun zs hzs => ?_) | refine st_copyS _ rJ rJ rK rE rD rJ rE rJ rO rO (fun zs hzs => ?_)) | refine st_sliceB rJ rJ rJ rJ rJ rJ rJ rL rE rE rJ (fun g => ?_) | refine st_slice1I rJ rJ rJ rJ rJ rJ (fun g => ?_) | refine st_slice1B rJ rJ rJ rJ rJ rJ rO rO (fun g => ?_) | refine st_slice1S rJ rJ rJ rJ rJ rJ (fun g => ?_) | refine st_slice2B rJ rJ rJ rJ rJ rJ rJ rO rO rO rO (fun g => ?_) | (apply exlConv; first | refine st_bytes rJ rJ rJ rJ rJ rO (fun v o => ?_) | refine st_mark _ rJ rJ rK rJ rJ rJ ?_) | refine st_clear _ (0 : UInt8) rJ rK rJ rJ rJ rJ rJ rO ?_ | refine st_clearT _ rJ rK rO rJ rJ rO rE ?_ | (apply exlAppend; first | refine st_app0 rJ rJ rE rD rJ rE rJ rE rJ rJ rJ rO (fun v o => ?_) | refine st_app _ rJ rE rK rE rD rJ rE rJ rE rJ rJ rJ rO (fun v o => ?_) | refine st_shift _ rJ rJ rJ rK rO rJ rJ rJ rO rO rE ?_)) | (refine Ex.cond_d rJ (fun h => ?_) (fun h => ?_) <;> try (exfalso; omega))))
      exact rnd_n ⟨2, _, by omega, rB, 3, c.set 2 ((c.get 2).tmod 40), by omega, rfl, few_step hc (by omega), lcons (vint (by omega)) rfl, rfl⟩
    · (repeat' (first | refine ExL.val rJ rJ rJ rV ?_ | (first | refine Ex.seq ?_ | refine Ex.region ?_ | refine ExL.nil ?_ | refine thn_n ?_ | refine Ex.cond_t rJ ?_ | refine Ex.cond_f rJ ?_ | refine Ex.skip ?_ | refine Ex.block ?_ | refine Ex.exit ?_ | refine Ex.ret ?_ | refine thn_exit ?_ | refine thn_ret ?_ | refine inb_n ?_ | refine inb_hit rJ ?_ | refine inb_miss rJ ?_ | refine inb_ret ?_ | refine rnd_exit ?_ | refine rnd_ret ?_ | refine meet_ret ?_ | refine meet_exit ?_) | (apply exlGuard; first | refine ExL.gskip rJ rJ rJ rJ rJ rJ ?_ | refine ExL.gtake rJ rJ rJ rJ ?_ | refine ExL.gskipU rJ rJ rJ rJ ?_ | (refine ExL.gsplit rJ rJ rJ (fun h => ?_) (fun h => ?_) <;> try (exfalso; omega))) | (first | refine st_new_ rJ rE (fun g => ?_) | refine st_boxA rJ rJ (fun g => ?_) | refine st_box1 rJ rE rN (fun g => ?_) | (apply exlStore; first | refine st_store1_ _ rJ rK rE rN rJ rJ rE rE ?_ | refine st_storeW_ _ rJ rK rJ rC rJ rJ rJ rE ?_ | refine st_storeR _ rJ rK rJ rE rJ rJ rE ?_ | refine st_storeA_ _ rJ rK rJ rC rJ rJ rJ rE rE ?_ | refine st_storeB _ rJ rJ rO rO rK rJ rO ?_ | refine st_storeG _ rJ rK rE rN rJ rO (fun cs hcs => ?_)) | refine st_slice0 rJ rJ rJ rJ (fun g => ?_) | refine st_slice1T rJ rJ rJ rJ (fun g => ?_) | refine st_makeT rJ rJ rJ rJ rE rJ rO rO (fun v o => ?_) | (apply exlCopy; first | refine st_copyW _ rJ rE rK rE rD rJ rE rJ (fun zs hzs => ?_) | refine st_copyS _ rJ rJ rK rE rD rJ rE rJ rO rO (fun zs hzs => ?_)) | refine st_sliceB rJ rJ rJ rJ rJ rJ rJ rL rE rE rJ (fun g => ?_) | refine st_slice1I rJ rJ rJ rJ rJ rJ (fun g => ?_) | refine st_slice1B rJ rJ rJ rJ rJ rJ rO rO (fun g => ?_) | refine st_slice1S rJ rJ rJ rJ rJ rJ (fun g => ?_) | refine st_slice2B rJ rJ rJ rJ rJ rJ rJ rO rO rO rO (fun g => ?_) | (apply exlConv; first | refine st_bytes rJ rJ rJ rJ rJ rO (fun v o => ?_) | refine st_mark _ rJ rJ rK rJ rJ rJ ?_) | refine st_clear _ (0 : UInt8) rJ rK rJ rJ rJ rJ rJ rO ?_ | refine st_clearT _ rJ rK rO rJ rJ rO rE ?_ | (apply exlAppend; first | refine st_app0 rJ rJ rE rD rJ rE rJ rE rJ rJ rJ rO (fun v o => ?_) | refine st_app _ rJ rE rK rE rD rJ rE rJ rE rJ rJ rJ rO (fun v o => ?_) | refine st_shift _ rJ rJ rJ rK rO rJ rJ rJ rO rO rE ?_)) | (refine Ex.cond_d rJ (fun h => ?_) (fun h => ?_) <;> try (exfalso; omega))))
      exact rnd_n ⟨1, _, by omega, rB, 4, c.set 3 ((c.get 3).tmod 40), by omega, rfl, few_step hc (by omega), lcons (vint (by omega)) rfl, rfl⟩
    · (repeat' (first | refine ExL.val rJ rJ rJ rV ?_ | (first | refine Ex.seq ?_ | refine Ex.region ?_ | refine ExL.nil ?_ | refine thn_n ?_ | refine Ex.cond_t rJ ?_ | refine Ex.cond_f rJ ?_ | refine Ex.skip ?_ | refine Ex.block ?_ | refine Ex.exit ?_ | refine Ex.ret ?_ | refine thn_exit ?_ | refine thn_ret ?_ | refine inb_n ?_ | refine inb_hit rJ ?_ | refine inb_miss rJ ?_ | refine inb_ret ?_ | refine rnd_exit ?_ | refine rnd_ret ?_ | refine meet_ret ?_ | refine meet_exit ?_) | (apply exlGuard; first | refine ExL.gskip rJ rJ rJ rJ rJ rJ ?_ | refine ExL.gtake rJ rJ rJ rJ ?_ | refine ExL.gskipU rJ rJ rJ rJ ?_ | (refine ExL.gsplit rJ rJ rJ (fun h => ?_) (fun h => ?_) <;> try (exfalso; omega))) | (first | refine st_new_ rJ rE (fun g => ?_) | refine st_boxA rJ rJ (fun g => ?_) | refine st_box1 rJ rE rN (fun g => ?_) | (apply exlStore; first | refine st_store1_ _ rJ rK rE rN rJ rJ rE rE ?_ | refine st_storeW_ _ rJ rK rJ rC rJ rJ rJ rE ?_ | refine st_storeR _ rJ rK rJ rE rJ rJ rE ?_ | refine st_storeA_ _ rJ rK rJ rC rJ rJ rJ rE rE ?_ | refine st_storeB _ rJ rJ rO rO rK rJ rO ?_ | refine st_storeG _ rJ rK rE rN rJ rO (fun cs hcs => ?_)) | refine st_slice0 rJ rJ rJ rJ (fun g => ?_) | refine st_slice1T rJ rJ rJ rJ (fun g => ?_) | refine st_makeT rJ rJ rJ rJ rE rJ rO rO (fun v o => ?_) | (apply exlCopy; first | refine st_copyW _ rJ rE rK rE rD rJ rE rJ (fun zs hzs => ?_) | refine st_copyS _ rJ rJ rK rE rD rJ rE rJ rO rO (fun zs hzs => ?_)) | refine st_sliceB rJ rJ rJ rJ rJ rJ rJ rL rE rE rJ (fun g => ?_) | refine st_slice1I rJ rJ rJ rJ rJ rJ (fun g => ?_) | refine st_slice1B rJ rJ rJ rJ rJ rJ rO rO (fun g => ?_) | refine st_slice1S rJ rJ rJ rJ rJ rJ (fun g => ?_) | refine st_slice2B rJ rJ rJ rJ rJ rJ rJ rO rO rO rO (fun g => ?_) | (apply exlConv; first | refine st_bytes rJ rJ rJ rJ rJ rO (fun v o => ?_) | refine st_mark _ rJ rJ rK rJ rJ rJ ?_) | refine st_clear _ (0 : UInt8) rJ rK rJ rJ rJ rJ rJ rO ?_ | refine st_clearT _ rJ rK rO rJ rJ rO rE ?_ | (apply exlAppend; first | refine st_app0 rJ rJ rE rD rJ rE rJ rE rJ rJ rJ rO (fun v o => ?_) | refine st_app _ rJ rE rK rE rD rJ rE rJ rE rJ rJ rJ rO (fun v o => ?_) | refine st_shift _ rJ rJ rJ rK rO rJ rJ rJ rO rO rE ?_)) | (refine Ex.cond_d rJ (fun h => ?_) (fun h => ?_) <;> try (exfalso; omega))))
      exact rnd_n ⟨0, _, by omega, rB, 5, c.set 4 ((c.get 4).tmod 40), by omega, rfl, few_step hc (by omega), lcons (vint (by omega)) rfl, rfl⟩
    · (repeat' (first | refine ExL.val rJ rJ rJ rV ?_ | (first | refine Ex.seq ?_ | refine Ex.region ?_ | refine ExL.nil ?_ | refine thn_n ?_ | refine Ex.cond_t rJ ?_ | refine Ex.cond_f rJ ?_ | refine Ex.skip ?_ | refine Ex.block ?_ | refine Ex.exit ?_ | refine Ex.ret ?_ | refine thn_exit ?_ | refine thn_ret ?_ | refine inb_n ?_ | refine inb_hit rJ ?_ | refine inb_miss rJ ?_ | refine inb_ret ?_ | refine rnd_exit ?_ | refine rnd_ret ?_ | refine meet_ret ?_ | refine meet_exit ?_) | (apply exlGuard; first | refine ExL.gskip rJ rJ rJ rJ rJ rJ ?_ | refine ExL.gtake rJ rJ rJ rJ ?_ | refine ExL.gskipU rJ rJ rJ rJ ?_ | (refine ExL.gsplit rJ rJ rJ (fun h => ?_) (fun h => ?_) <;> try (exfalso; omega))) | (first | refine st_new_ rJ rE (fun g => ?_) | refine st_boxA rJ rJ (fun g => ?_) | refine st_box1 rJ rE rN (fun g => ?_) | (apply exlStore; first | refine st_store1_ _ rJ rK rE rN rJ rJ rE rE ?_ | refine st_storeW_ _ rJ rK rJ rC rJ rJ rJ rE ?_ | refine st_storeR _ rJ rK rJ rE rJ rJ rE ?_ | refine st_storeA_ _ rJ rK rJ rC rJ rJ rJ rE rE ?_ | refine st_storeB _ rJ rJ rO rO rK rJ rO ?_ | refine st_storeG _ rJ rK rE rN rJ rO (fun cs hcs => ?_)) | refine st_slice0 rJ rJ rJ rJ (fun g => ?_) | refine st_slice1T rJ rJ rJ rJ (fun g => ?_) | refine st_makeT rJ rJ rJ rJ rE rJ rO rO (fun v o => ?_) | (apply exlCopy; first | refine st_copyW _ rJ rE rK rE rD rJ rE rJ (fun zs hzs => ?_) | refine st_copyS _ rJ rJ rK rE rD rJ rE rJ rO rO (fun zs hzs => ?_)) | refine st_sliceB rJ rJ rJ rJ rJ rJ rJ rL rE rE rJ (fun g => ?_) | refine st_slice1I rJ rJ rJ rJ rJ rJ (fun g => ?_) | refine st_slice1B rJ rJ rJ rJ rJ rJ rO rO (fun g => ?_) | refine st_slice1S rJ rJ rJ rJ rJ rJ (fun g => ?_) | refine st_slice2B rJ rJ rJ rJ rJ rJ rJ rO rO rO rO (fun g => ?_) | (apply exlConv; first | refine st_bytes rJ rJ rJ rJ rJ rO (fun v o => ?_) | refine st_mark _ rJ rJ rK rJ rJ rJ ?_) | refine st_clear _ (0 : UInt8) rJ rK rJ rJ rJ rJ rJ rO ?_ | refine st_clearT _ rJ rK rO rJ rJ rO rE ?_ | (apply exlAppend; first | refine st_app0 rJ rJ rE rD rJ rE rJ rE rJ rJ rJ rO (fun v o => ?_) | refine st_app _ rJ rE rK rE rD rJ rE rJ rE rJ rJ rJ rO (fun v o => ?_) | refine st_shift _ rJ rJ rJ rK rO rJ rJ rJ rO rO rE ?_)) | (refine Ex.cond_d rJ (fun h => ?_) (fun h => ?_) <;> try (exfalso; omega))))
      exact rnd_n ⟨30 - (i + 1), Evs_ v (w ++ [({ e with c := c } : Ev)]) :: M, by omega, rB, i + 1, v, _, by omega, rfl, by rw [List.length_append]; simp only [List.length_cons, List.length_nil]; omega, (fun x hx => by
        rcases List.mem_append.1 hx with hx | hx
        · exact hw x hx
        · simp only [List.mem_singleton] at hx
          subst hx
          exact ⟨⟨hc 0 (by omega), hc 1 (by omega), hc 2 (by omega), hc 3 (by omega), hc 4 (by omega)⟩, e, hel, c, rfl⟩), by assumption, lcons rfl (lcons (vint (by omega)) rfl), rfl⟩
  · have hcut : l.length ≤ i ∨ (i < l.length ∧ 30 ≤ i) := by omega
    rcases hcut with hcut | ⟨hcut, hcut2⟩
    all_goals
      (repeat' (first | refine ExL.val rJ rJ rJ rV ?_ | (first | refine Ex.seq ?_ | refine Ex.region ?_ | refine ExL.nil ?_ | refine thn_n ?_ | refine Ex.cond_t rJ ?_ | refine Ex.cond_f rJ ?_ | refine Ex.skip ?_ | refine Ex.block ?_ | refine Ex.exit ?_ | refine Ex.ret ?_ | refine thn_exit ?_ | refine thn_ret ?_ | refine inb_n ?_ | refine inb_hit rJ ?_ | refine inb_miss rJ ?_ | refine inb_ret ?_ | refine rnd_exit ?_ | refine rnd_ret ?_ | refine meet_ret ?_ | refine meet_exit ?_) | (apply exlGuard; first | refine ExL.gskip rJ rJ rJ rJ rJ rJ ?_ | refine ExL.gtake rJ rJ rJ rJ ?_ | refine ExL.gskipU rJ rJ rJ rJ ?_ | (refine ExL.gsplit rJ rJ rJ (fun h => ?_) (fun h => ?_) <;> try (exfalso; omega))) | (first | refine st_new_ rJ rE (fun g => ?_) | refine st_boxA rJ rJ (fun g => ?_) | refine st_box1 rJ rE rN (fun g => ?_) | (apply exlStore; first | refine st_store1_ _ rJ rK rE rN rJ rJ rE rE ?_ | refine st_storeW_ _ rJ rK rJ rC rJ rJ rJ rE ?_ | refine st_storeR _ rJ rK rJ rE rJ rJ rE ?_ | refine st_storeA_ _ rJ rK rJ rC rJ rJ rJ rE rE ?_ | refine st_storeB _ rJ rJ rO rO rK rJ rO ?_ | refine st_storeG _ rJ rK rE rN rJ rO (fun cs hcs => ?_)) | refine st_slice0 rJ rJ rJ rJ (fun g => ?_) | refine st_slice1T rJ rJ rJ rJ (fun g => ?_) | refine st_makeT rJ rJ rJ rJ rE rJ rO rO (fun v o => ?_) | (apply exlCopy; first | refine st_copyW _ rJ rE rK rE rD rJ rE rJ (fun zs hzs => ?_) | refine st_copyS _ rJ rJ rK rE rD rJ rE rJ rO rO (fun zs hzs => ?_)) | refine st_sliceB rJ rJ rJ rJ rJ rJ rJ rL rE rE rJ (fun g => ?_) | refine st_slice1I rJ rJ rJ rJ rJ rJ (fun g => ?_) | refine st_slice1B rJ rJ rJ rJ rJ rJ rO rO (fun g => ?_) | refine st_slice1S rJ rJ rJ rJ rJ rJ (fun g => ?_) | refine st_slice2B rJ rJ rJ rJ rJ rJ rJ rO rO rO rO (fun g => ?_) | (apply exlConv; first | refine st_bytes rJ rJ rJ rJ rJ rO (fun v o => ?_) | refine st_mark _ rJ rJ rK rJ rJ rJ ?_) | refine st_clear _ (0 : UInt8) rJ rK rJ rJ rJ rJ rJ rO ?_ | refine st_clearT _ rJ rK rO rJ rJ rO rE ?_ | (apply exlAppend; first | refine st_app0 rJ rJ rE rD rJ rE rJ rE rJ rJ rJ rO (fun v o => ?_) | refine st_app _ rJ rE rK rE rD rJ rE rJ rE rJ rJ rJ rO (fun v o => ?_) | refine st_shift _ rJ rJ rJ rK rO rJ rJ rJ rO rO rE ?_)) | (refine Ex.cond_d rJ (fun h => ?_) (fun h => ?_) <;> try (exfalso; omega))))
      (first | refine fin_ret rS ?_ | refine fin_norm rS ?_)
      exact ⟨_, rB, o3, w, by omega, hw, rfl⟩
end Go.Proofs.Ytcclbplccnaonaa
/- Sorting by stamps, in plain words: what is inserted, one by one; two sorted rows as one. No condition. -/
namespace Go.Proofs.Ytcclbplccnaonaa
open Go.RowKit
set_option linter.unusedSimpArgs false
set_option linter.unusedVariables false
def stLt (a b : Ev) : Bool := decide (a.h < b.h ∨ (a.h = b.h ∧ a.r < b.r))
theorem stLt_iff (a b : Ev) : stLt a b = true ↔ a.h < b.h ∨ (a.h = b.h ∧ a.r < b.r) := by simp [stLt]
theorem stLt_f (a b : Ev) : stLt a b = false ↔ ¬ (a.h < b.h ∨ (a.h = b.h ∧ a.r < b.r)) := by simp [stLt]
theorem stLt_trans {a b c : Ev} (h : stLt a b = true) (k : stLt b c = true) : stLt a c = true := by
  rw [stLt_iff] at h k ⊢; omega
theorem stLt_ge {a b c : Ev} (h : stLt a b = false) (k : stLt b c = false) : stLt a c = false := by
  rw [stLt_f] at h k ⊢; omega
theorem stLt_mid {a b c : Ev} (h : stLt a c = true) (k : stLt b c = false) : stLt a b = true := by
  rw [stLt_iff] at h ⊢; rw [stLt_f] at k; omega
theorem stLt_asym {a b : Ev} (h : stLt a b = true) : stLt b a = false := by
  rw [stLt_iff] at h; rw [stLt_f]; omega
theorem stLt_irr (a : Ev) : stLt a a = false := by rw [stLt_f]; omega
def ins (x : Ev) : List Ev → List Ev
  | [] => [x]
  | y :: l => if stLt x y = true then x :: y :: l else y :: ins x l
def sortP (l : List Ev) : List Ev := l.foldl (fun acc x => ins x acc) []
theorem sortP_snoc (l : List Ev) (x : Ev) : sortP (l ++ [x]) = ins x (sortP l) := by unfold sortP; rw [List.foldl_append]; rfl
theorem ins_perm (x : Ev) : ∀ l : List Ev, (ins x l).Perm (x :: l)
  | [] => List.Perm.refl _
  | y :: l => by
    unfold ins
    split
    · exact List.Perm.refl _
    · exact ((ins_perm x l).cons y).trans (List.Perm.swap ..)
theorem sortP_perm (l : List Ev) : (sortP l).Perm l := by
  rw [← List.reverse_reverse l]
  generalize l.reverse = m
  induction m with
  | nil => exact List.Perm.refl _
  | cons x m ih =>
    rw [List.reverse_cons, sortP_snoc]
    exact ((ins_perm x _).trans (ih.cons x)).trans (List.perm_append_singleton x _).symm
/-- None is less than one ahead of it. -/
def Srt (l : List Ev) : Prop := l.Pairwise fun a b => stLt b a = false
theorem ins_srt (x : Ev) : ∀ {l : List Ev}, Srt l → Srt (ins x l)
  | [], _ => by simp [Srt, ins]
  | y :: l, h => by
    obtain ⟨h1, h2⟩ := List.pairwise_cons.1 h
    unfold ins
    split
    · rename_i hxy
      refine List.pairwise_cons.2 ⟨fun z hz => ?_, h⟩
      rcases List.mem_cons.1 hz with rfl | hz
      · exact stLt_asym hxy
      · exact stLt_ge (h1 z hz) (stLt_asym hxy)
    · rename_i hxy
      refine List.pairwise_cons.2 ⟨fun z hz => ?_, ins_srt x h2⟩
      rcases List.mem_cons.1 ((ins_perm x l).mem_iff.1 hz) with rfl | hz
      · simpa using hxy
      · exact h1 z hz
theorem sortP_srt (l : List Ev) : Srt (sortP l) := by
  rw [← List.reverse_reverse l]
  generalize l.reverse = m
  induction m with
  | nil => exact List.Pairwise.nil
  | cons x m ih =>
    rw [List.reverse_cons, sortP_snoc]
    exact ins_srt x ih
/-- Where one stands that is inserted. -/
theorem ins_at (x : Ev) : ∀ {pre suf : List Ev}, (∀ y ∈ pre, stLt x y = false) → (∀ y, suf.head? = some y → stLt x y = true) → ins x (pre ++ suf) = pre ++ x :: suf
  | [], [], _, _ => rfl
  | [], y :: l, _, h => by
    show ins x (y :: l) = _
    unfold ins
    rw [if_pos (h y rfl)]
    rfl
  | y :: l, suf, h1, h2 => by
    show ins x (y :: (l ++ suf)) = _
    unfold ins
    rw [if_neg (by rw [h1 y (by simp)]; simp), ins_at x (fun z hz => h1 z (List.mem_cons_of_mem _ hz)) h2]
    rfl
/-- What is sorted stays so. -/
theorem sortP_id {l : List Ev} (h : Srt l) : sortP l = l := by
  have key : ∀ m : List Ev, Srt m.reverse → sortP m.reverse = m.reverse := by
    intro m
    induction m with
    | nil => intro _; rfl
    | cons x m ih =>
      intro h
      rw [List.reverse_cons] at h ⊢
      obtain ⟨h1, _, h3⟩ := List.pairwise_append.1 h
      rw [sortP_snoc, ih h1]
      have := ins_at x (pre := m.reverse) (suf := []) (fun y hy => h3 y hy x (by simp)) (by simp)
      simpa using this
  have := key l.reverse (by simpa using h)
  simpa using this
def mrg : List Ev → List Ev → List Ev
  | [], r => r
  | a :: l, [] => a :: l
  | a :: l, b :: r => if stLt b a = true then b :: mrg (a :: l) r else a :: mrg l (b :: r)
theorem mrg_nil_r (l : List Ev) : mrg l [] = l := by cases l <;> simp [mrg]
theorem mrg_nil_l (l : List Ev) : mrg [] l = l := by cases l <;> simp [mrg]
theorem mrg_r (R1 L2 R2 : List Ev) (h : ∀ a ∈ L2, ∀ b ∈ R1, stLt b a = true) : mrg L2 (R1 ++ R2) = R1 ++ mrg L2 R2 := by
  induction R1 with
  | nil => rfl
  | cons b R1 ih =>
    have ih := ih fun a ha b hb => h a ha b (List.mem_cons_of_mem _ hb)
    cases L2 with
    | nil => rw [mrg_nil_l, mrg_nil_l]
    | cons a L2 =>
      show mrg (a :: L2) (b :: (R1 ++ R2)) = _
      rw [mrg, if_pos (h a (by simp) b (by simp)), ih]
      rfl
theorem mrg_l (L1 L2 R2 : List Ev) (h : ∀ a ∈ L1, ∀ b ∈ R2, stLt b a = false) : mrg (L1 ++ L2) R2 = L1 ++ mrg L2 R2 := by
  induction L1 with
  | nil => rfl
  | cons a L1 ih =>
    have ih := ih fun a ha b hb => h a (List.mem_cons_of_mem _ ha) b hb
    cases R2 with
    | nil => rw [mrg_nil_r, mrg_nil_r]
    | cons b R2 =>
      show mrg (a :: (L1 ++ L2)) (b :: R2) = _
      rw [mrg, if_neg (by rw [h a (by simp) b (by simp)]; simp), ih]
      rfl
/-- Two rows, parted so that what is behind is later, are merged part by part. -/
theorem mrg_app : ∀ (L1 R1 L2 R2 : List Ev), (∀ a ∈ L1, ∀ b ∈ R2, stLt b a = false) → (∀ a ∈ L2, ∀ b ∈ R1, stLt b a = true) → mrg (L1 ++ L2) (R1 ++ R2) = mrg L1 R1 ++ mrg L2 R2
  | [], R1, L2, R2, h1, h2 => by rw [mrg_nil_l]; exact mrg_r R1 L2 R2 h2
  | a :: L1, [], L2, R2, h1, h2 => by rw [mrg_nil_r]; exact mrg_l (a :: L1) L2 R2 h1
  | a :: L1, b :: R1, L2, R2, h1, h2 => by
    show mrg (a :: (L1 ++ L2)) (b :: (R1 ++ R2)) = _
    rw [mrg, mrg]
    split
    · have := mrg_app (a :: L1) R1 L2 R2 h1 (fun x hx y hy => h2 x hx y (List.mem_cons_of_mem _ hy))
      show b :: mrg (a :: L1 ++ L2) (R1 ++ R2) = _
      rw [this]; rfl
    · have := mrg_app L1 (b :: R1) L2 R2 (fun x hx y hy => h1 x (List.mem_cons_of_mem _ hx) y hy) h2
      show a :: mrg (L1 ++ L2) (b :: R1 ++ R2) = _
      rw [this]; rfl
termination_by L1 R1 => L1.length + R1.length
theorem ins_mrg (x : Ev) : ∀ (X Y : List Ev), ins x (mrg X Y) = mrg X (ins x Y)
  | [], Y => by rw [mrg_nil_l, mrg_nil_l]
  | a :: X, [] => by
    rw [mrg_nil_r]
    show ins x (a :: X) = mrg (a :: X) [x]
    unfold ins
    rw [mrg, mrg_nil_r]
    split
    · rfl
    · have := ins_mrg x X []
      rw [mrg_nil_r] at this
      rw [this]; rfl
  | a :: X, b :: Y => by
    by_cases hba : stLt b a = true
    · rw [mrg, if_pos hba]
      by_cases hxb : stLt x b = true
      · have e1 : ins x (b :: mrg (a :: X) Y) = x :: b :: mrg (a :: X) Y := by unfold ins; rw [if_pos hxb]
        have e2 : ins x (b :: Y) = x :: b :: Y := by unfold ins; rw [if_pos hxb]
        rw [e1, e2, mrg, if_pos (stLt_trans hxb hba), mrg, if_pos hba]
      · have e1 : ins x (b :: mrg (a :: X) Y) = b :: ins x (mrg (a :: X) Y) := by conv => lhs; unfold ins; rw [if_neg hxb]
        have e2 : ins x (b :: Y) = b :: ins x Y := by conv => lhs; unfold ins; rw [if_neg hxb]
        rw [e1, e2, ins_mrg x (a :: X) Y, mrg, if_pos hba]
    · rw [mrg, if_neg hba]
      by_cases hxa : stLt x a = true
      · have hxb : stLt x b = true := stLt_mid (c := a) hxa (by simpa using hba) |> fun h => h
        have e1 : ins x (a :: mrg X (b :: Y)) = x :: a :: mrg X (b :: Y) := by unfold ins; rw [if_pos hxa]
        have e2 : ins x (b :: Y) = x :: b :: Y := by unfold ins; rw [if_pos hxb]
        rw [e1, e2, mrg, if_pos hxa, mrg, if_neg hba]
      · have e1 : ins x (a :: mrg X (b :: Y)) = a :: ins x (mrg X (b :: Y)) := by conv => lhs; unfold ins; rw [if_neg hxa]
        rw [e1, ins_mrg x X (b :: Y)]
        by_cases hxb : stLt x b = true
        · have e2 : ins x (b :: Y) = x :: b :: Y := by unfold ins; rw [if_pos hxb]
          rw [e2]
          conv => rhs; rw [mrg, if_neg hxa]
        · have e2 : ins x (b :: Y) = b :: ins x Y := by conv => lhs; unfold ins; rw [if_neg hxb]
          rw [e2]
          conv => rhs; rw [mrg, if_neg hba]
termination_by X Y => X.length + Y.length
theorem sortP_app (A B : List Ev) : sortP (A ++ B) = mrg (sortP A) (sortP B) := by
  rw [← List.reverse_reverse B]
  generalize B.reverse = m
  induction m with
  | nil => simp [mrg_nil_r, sortP]
  | cons x m ih =>
    rw [List.reverse_cons, ← List.append_assoc, sortP_snoc, ih, sortP_snoc, ins_mrg]
end Go.Proofs.Ytcclbplccnaonaa
/- Many parts of memory as one; one of them in focus; fields in the midst of a block. No condition. -/
namespace Go.Proofs.Ytcclbplccnaonaa
open Go.RowKit
set_option linter.unusedSimpArgs false
set_option linter.unusedVariables false
/-- All of these, each in a part of its own. -/
def Star : List Assn → Assn
  | [], _ => True
  | A :: As, h => ∃ h1 h2 : Frag, h = h1.add h2 ∧ h1.disj h2 ∧ A h1 ∧ Star As h2
theorem frag_assoc {a b c : Frag} : (a.add b).add c = a.add (b.add c) := by
  funext n
  unfold Frag.add
  cases a n <;> rfl
theorem Star.open1 {A : Assn} {As : List Assn} (L : List Assn) : Sub (A :: Star As :: L) (Star (A :: As) :: L) := fun w F ⟨h, ⟨h1, h2, he, hd, a, rs⟩, d, s⟩ => by
  subst he
  have d1 : h1.disj F := fun n => by
    rcases d n with x | x
    · left
      unfold Frag.add at x
      cases hh : h1 n with
      | none => rfl
      | some o => rw [hh] at x; cases x
    · exact .inr x
  have d2 : h2.disj F := fun n => by
    rcases d n with x | x
    · rcases hd n with y | y
      · left
        unfold Frag.add at x
        rw [y] at x
        exact x
      · exact .inl y
    · exact .inr x
  refine ⟨h1, a, d1, h2, rs, ?_, ?_⟩
  · rw [Frag.disj_add]; exact ⟨Frag.disj_symm hd, d2⟩
  · rw [← Frag.add_left_comm hd, ← frag_assoc]; exact s
theorem Star.close1 {A : Assn} {As : List Assn} (L : List Assn) : Sub (Star (A :: As) :: L) (A :: Star As :: L) := fun w F ⟨h1, a, d, h2, rs, d2, s⟩ => by
  rw [Frag.disj_add] at d2
  refine ⟨h1.add h2, ⟨h1, h2, rfl, Frag.disj_symm d2.1, a, rs⟩, ?_, ?_⟩
  · intro n
    rcases d n with x | x
    · rcases d2.2 n with y | y
      · left; unfold Frag.add; rw [x]; exact y
      · exact .inr y
    · exact .inr x
  · rw [frag_assoc, Frag.add_left_comm (Frag.disj_symm d2.1)]; exact s
theorem Star.nil (L : List Assn) : Sub (Star [] :: L) L := fun w F s => by
  refine ⟨fun _ => none, trivial, fun n => Or.inl rfl, ?_⟩
  have : Frag.add (fun _ => none) F = F := by funext n; rfl
  rw [this]; exact s
/-- One of them in front. -/
theorem Star.focus : ∀ {As : List Assn} {i : Nat} {A : Assn} (L : List Assn), As[i]? = some A → Sub (A :: Star (As.eraseIdx i) :: L) (Star As :: L)
  | [], _, _, _, h => by simp at h
  | B :: As, 0, A, L, h => by
    simp at h; subst h; exact Star.open1 L
  | B :: As, i + 1, A, L, h => by
    simp at h
    have h1 := Star.focus (As := As) (i := i) (A := A) L h
    refine Sub.trans ?_ (Star.open1 L)
    refine Sub.trans ?_ (Sub.cons B h1)
    refine Sub.trans (Sub.cons A (Star.close1 (A := B) (As := As.eraseIdx i) L)) ?_
    exact Sub.front (L := B :: A :: Star (As.eraseIdx i) :: L) 1 rfl
theorem Star.unfocus : ∀ {As : List Assn} {i : Nat} (A : Assn) (L : List Assn), i < As.length → Sub (Star (As.set i A) :: L) (A :: Star (As.eraseIdx i) :: L)
  | [], _, _, _, h => by simp at h
  | B :: As, 0, A, L, h => Star.close1 L
  | B :: As, i + 1, A, L, h => by
    have h1 := Star.unfocus (As := As) (i := i) A L (by simpa using h)
    refine Sub.trans (Star.close1 (A := B) (As := As.set i A) L) ?_
    refine Sub.trans (Sub.cons B h1) ?_
    refine Sub.trans (Sub.front (L := A :: B :: Star (As.eraseIdx i) :: L) 1 rfl) ?_
    exact Sub.cons A (Star.open1 (A := B) (As := As.eraseIdx i) L)
theorem Star.last {As : List Assn} (A : Assn) : ∀ (L : List Assn), Sub (Star (As ++ [A]) :: L) (A :: Star As :: L) := by
  induction As with
  | nil => exact fun L => Star.close1 L
  | cons B As ih =>
    intro L
    refine Sub.trans (Star.close1 (A := B) (As := As ++ [A]) L) ?_
    refine Sub.trans (Sub.cons B (ih L)) ?_
    refine Sub.trans (Sub.front (L := A :: B :: Star As :: L) 1 rfl) ?_
    exact Sub.cons A (Star.open1 L)
/-- Two as one. -/
def Two (A B : Assn) : Assn := Star [A, B]
theorem Two.opn (A B : Assn) (L : List Assn) : Sub (A :: B :: L) (Two A B :: L) :=
  Sub.trans (Sub.cons A (Sub.trans (Sub.cons B (Sub.drop _ (Sub.refl L))) (Star.open1 (A := B) (As := []) L))) (Star.open1 (A := A) (As := [B]) L)
theorem Two.cls (A B : Assn) (L : List Assn) : Sub (Two A B :: L) (A :: B :: L) :=
  Sub.trans (Star.close1 (A := A) (As := [B]) L) (Sub.cons A (Sub.trans (Star.close1 (A := B) (As := []) L) (Sub.cons B (Star.nil L))))
/-- A pointer as a thing of a slice. -/
structure Ptr where
  g : Nat
deriving DecidableEq
instance : Rep Ptr := ⟨1, fun p => [.pointer (some ⟨p.g, 0, none⟩)], by decide, fun _ => rfl, fun _ => rfl⟩
section
variable {P : Program} {n : Nat} {ops : Array Oper} {Q : Post} {f : Nat → Value} {L : List Assn} {rest : List Oper} {d : Nat} {ty : TypeId} {pos : String} {af : Array Edge} {gd : Option (Nat × Bool)}
variable {α : Type} [Rep α] {xs : List α}
theorem mid_get {pre post : List Value} {j q : Nat} (hj : j < xs.length) (hq : q < Rep.sz α) : (pre ++ cellsOf xs ++ post)[pre.length + j * Rep.sz α + q]? = (Rep.cells (xs[j]'hj))[q]? := by
  have hl := cellsOf_len xs
  have hb : j * Rep.sz α + q < xs.length * Rep.sz α := by
    have : (j + 1) * Rep.sz α ≤ xs.length * Rep.sz α := Nat.mul_le_mul_right _ (by omega)
    rw [Nat.succ_mul] at this
    omega
  rw [List.append_assoc, List.getElem?_append_right (by omega), show pre.length + j * Rep.sz α + q - pre.length = j * Rep.sz α + q by omega, List.getElem?_append_left (by rw [hl]; exact hb)]
  have := cellsOf_get1 hj
  rw [← this, List.getElem?_take, if_pos hq, List.getElem?_drop]
/-- A thing in the midst of a block, whole. -/
theorem vl_loadMA (i : Nat) {t bt : TypeId} {x : Operand} {g j o sz : Nat} {cs pre post : List Value} (xs : List α) (hx : evalF f x = .pointer (some ⟨g, o + j * sz, none⟩)) (hi : L[i]? = some (Blk g bt cs)) (he : cs = pre ++ cellsOf xs ++ post) (ho : pre.length = o) (hA : aggB P t = some true) (hm : P.cellsOf t = sz) (hsz : Rep.sz α = sz) (hj : j < xs.length) :
    Val P ⟨some d, .load t x, ty, pos, af, gd⟩ f L (.agg (Rep.cells (xs[j]'hj)).toArray) := fun F w s => by
  subst he; subst ho; subst hsz
  have := run_loadVarA (P := P) w (t := t) (a := ⟨g, pre.length + j * Rep.sz α, none⟩) (cs := Rep.cells (xs[j]'hj)) hA (by rw [hm, Rep.len]) (by rw [Rep.len]; exact Rep.pos) (fun k u hk => by
    rw [addr_add]
    have hk2 : k < Rep.sz α := by have := (List.getElem?_eq_some_iff.1 hk).1; rwa [Rep.len] at this
    exact blk_cell hi (by rw [mid_get hj hk2]; exact hk) s)
  simp [execOp, hx, Instr.loadAt, Instr.sureAddr, this]
/-- One cell of it. -/
theorem vl_loadM1 (i : Nat) {t bt : TypeId} {x : Operand} {g j o q sz : Nat} {cs pre post : List Value} {v : Value} (xs : List α) (hx : evalF f x = .pointer (some ⟨g, o + j * sz + q, none⟩)) (hi : L[i]? = some (Blk g bt cs)) (he : cs = pre ++ cellsOf xs ++ post) (ho : pre.length = o) (hA : aggB P t = some false) (hsz : Rep.sz α = sz) (hj : j < xs.length) (hq : q < sz) (hv : (Rep.cells (xs[j]'hj))[q]? = some v) :
    Val P ⟨some d, .load t x, ty, pos, af, gd⟩ f L v := fun F w s => by
  subst he; subst ho; subst hsz
  have := blk_cell hi (o := pre.length + j * Rep.sz α + q) (v := v) (by rw [mid_get hj hq]; exact hv) s
  simp [execOp, hx, Instr.loadAt, Instr.sureAddr, run_loadVar1 w hA this]
theorem mid_set {pre post : List Value} {j : Nat} (hj : j < xs.length) (a : α) : (pre ++ cellsOf xs ++ post).take (pre.length + j * Rep.sz α) ++ Rep.cells a ++ (pre ++ cellsOf xs ++ post).drop (pre.length + j * Rep.sz α + Rep.sz α) = pre ++ cellsOf (xs.set j a) ++ post := by
  have hl := cellsOf_len xs
  have hb : j * Rep.sz α + Rep.sz α ≤ xs.length * Rep.sz α := by
    have : (j + 1) * Rep.sz α ≤ xs.length * Rep.sz α := Nat.mul_le_mul_right _ (by omega)
    rwa [Nat.succ_mul] at this
  rw [← cellsOf_setA hj a, List.append_assoc pre, List.take_append, List.drop_append, List.take_of_length_le (show pre.length ≤ pre.length + j * Rep.sz α by omega), List.drop_eq_nil_of_le (show pre.length ≤ pre.length + j * Rep.sz α + Rep.sz α by omega)]
  rw [show pre.length + j * Rep.sz α - pre.length = j * Rep.sz α by omega, show pre.length + j * Rep.sz α + Rep.sz α - pre.length = j * Rep.sz α + Rep.sz α by omega, List.take_append_of_le_length (by omega), List.drop_append_of_le_length (by omega)]
  simp [List.append_assoc]
theorem st_storeMA (i : Nat) {t bt : TypeId} {x y : Operand} {g j o sz : Nat} {cs pre post : List Value} (xs : List α) {a : α} {L' : List Assn} (hx : evalF f x = .pointer (some ⟨g, o + j * sz, none⟩)) (hi : L[i]? = some (Blk g bt cs)) (he : cs = pre ++ cellsOf xs ++ post) (ho : pre.length = o) (hy : evalF f y = .agg (Rep.cells a).toArray) (hm : P.cellsOf t = sz) (hsz : Rep.sz α = sz) (hj : j < xs.length)
    (hL : L.set i (Blk g bt (pre ++ cellsOf (xs.set j a) ++ post)) = L') (h : ExL P n ops rest Q f L') : ExL P n ops (⟨none, .store t x y, ty, pos, af, none⟩ :: rest) Q f L := by
  subst he; subst ho; subst hsz
  refine st_storeA i hx hy (Rep.one a) hi (by rw [hm, Rep.len]) (by rw [Rep.len]; exact Nat.ble_eq_true_of_le (show 0 + 1 ≤ _ from Rep.pos)) (by
    rw [Rep.len]
    have hl := cellsOf_len xs
    have hb : (j + 1) * Rep.sz α ≤ xs.length * Rep.sz α := Nat.mul_le_mul_right _ (by omega)
    rw [Nat.succ_mul] at hb
    exact Nat.ble_eq_true_of_le (by simp only [List.length_append]; omega)) ?_ h
  rw [Rep.len, mid_set hj a, hL]
/-- a[:] of an array in the midst of a block. -/
theorem vl_slArrO {t e : TypeId} {x : Operand} {g o m sz : Nat} (hx : evalF f x = .pointer (some ⟨g, o, none⟩)) (hu : P.underlying t = some (.array m e)) (hs : P.cellsOf e = sz) (hp : Nat.blt 0 sz = true) (hm : Nat.blt 0 m = true) :
    Val P ⟨some d, .slice t x none none none, ty, pos, af, gd⟩ f L (.slice (some ⟨g, o, none⟩) m m) := fun F w s => by
  have hm := Nat.le_of_ble_eq_true hm
  simp [execOp, hx, Instr.sliceAt, run_underlying hu, Instr.sureAddr, Instr.sliceBounds, run_sizeOf' w hs (Nat.le_of_ble_eq_true hp), show ¬ m = 0 by omega, addr_add]
theorem mid_over {pre post : List Value} {ys : List α} (hy : ys.length ≤ xs.length) : (pre ++ cellsOf xs ++ post).take pre.length ++ cellsOf ys ++ (pre ++ cellsOf xs ++ post).drop (pre.length + (cellsOf ys).length) = pre ++ cellsOf (ys ++ xs.drop ys.length) ++ post := by
  have hl := cellsOf_len xs
  have hl2 := cellsOf_len ys
  have hb : ys.length * Rep.sz α ≤ xs.length * Rep.sz α := Nat.mul_le_mul_right _ hy
  rw [cellsOf_append, ← cellsOf_drop, List.append_assoc pre, List.take_left, List.drop_append, List.drop_eq_nil_of_le (show pre.length ≤ pre.length + (cellsOf ys).length by omega), show pre.length + (cellsOf ys).length - pre.length = (cellsOf ys).length by omega, List.drop_append_of_le_length (by omega), hl2]
  simp [List.append_assoc]
/-- copy(a[:], u), where a stands in the midst of a block. -/
theorem st_copyM (i : Nat) {dd : Option Nat} {x y : Operand} {u : Value} {t t2 e bt : TypeId} {sz g o m c : Nat} {cs pre post : List Value} (xs ys : List α) (hd : dstOk n dd = true) (hx : evalF f x = .slice (some ⟨g, o, none⟩) m c) (hi : L[i]? = some (Blk g bt cs)) (he : cs = pre ++ cellsOf xs ++ post) (ho : pre.length = o) (hm : xs.length = m) (hy : evalF f y = u) (hr : RdT L u ys) (hle : ys.length ≤ m)
    (ht : P.underlying t = some (.slice e)) (hs : P.cellsOf e = sz) (hsz : Rep.sz α = sz)
    (h : ExL P n ops rest Q (updo f dd (.int .i64 (ys.length : Nat))) (L.set i (Blk g bt (pre ++ cellsOf (ys ++ xs.drop ys.length) ++ post)))) : ExL P n ops (⟨dd, .call ⟨.builtin .copy, #[x, y], #[t, t2]⟩, ty, pos, af, none⟩ :: rest) Q f L := by
  subst he; subst ho; subst hm; subst hsz; subst hy
  have hp : 0 < Rep.sz α := Rep.pos
  refine ExL.eff rfl hd (R := fun r L' => r = .int .i64 (ys.length : Nat) ∧ L' = L.set i (Blk g bt (pre ++ cellsOf (ys ++ xs.drop ys.length) ++ post))) (fun F w s => ?_) (fun v' L' e => by obtain ⟨rfl, rfl⟩ := e; exact h)
  obtain ⟨hl, a, cap, hev, hmc, hcm, han, hcell⟩ := hr w F s
  have hmin : Nat.min ys.length xs.length = ys.length := Nat.min_eq_left hle
  have hmin2 : min ys.length xs.length = ys.length := Nat.min_eq_left hle
  cases a with
  | none =>
    have h0 : ys.length = 0 := by have := han rfl; omega
    have e0 : ys = [] := List.eq_nil_of_length_eq_zero h0
    refine ⟨_, w, _, .inl ?_, Rest.refl w, ?_, rfl, rfl⟩
    · simp [execOp, resolve, invoke, builtin, hx, hev, Builtin.copy_, run_underlying ht, Builtin.lenOf, Builtin.firstCells, run_sizeOf' w hs hp, h0, loadCells, loadCellsFrom, storeCells, goInt]
    · subst e0
      have e1 : pre ++ cellsOf ([] ++ xs.drop ([] : List α).length) ++ post = pre ++ cellsOf xs ++ post := by simp
      rw [e1, list_set_same hi]; exact s
  | some ad =>
    have hload := run_loadCells_list (P := P) w ad (cellsOf ys) (fun j u hj => hcell ad rfl j u hj)
    rw [cellsOf_len] at hload
    have hle2 : ys.length * Rep.sz α ≤ xs.length * Rep.sz α := Nat.mul_le_mul_right _ hle
    obtain ⟨w', hrun, hre, hs2⟩ := run_storeCells_blk (P := P) (cellsOf ys) 0 pre.length w L (pre ++ cellsOf xs ++ post) hi (by simp only [List.length_append, cellsOf_len]; omega) (fun v hv => cellsOf_all _ v hv) s
    rw [Nat.add_zero, mid_over hle] at hs2
    refine ⟨_, w', _, .inl ?_, hre, hs2, rfl, rfl⟩
    simp [execOp, resolve, invoke, builtin, hx, hev, Builtin.copy_, run_underlying ht, Builtin.lenOf, Builtin.firstCells, run_sizeOf' w hs hp, hmin, hmin2, hload, hrun, goInt]
/-- A thing of a row of one's own is written, whole. -/
theorem st_storeRA (r : Nat) {t e : TypeId} {x y : Operand} {v : Value} {i sz : Nat} {a : α} {L' : List Assn} (hx : evalF f x = elt v (i * sz + 0)) (hy : evalF f y = .agg (Rep.cells a).toArray) (hi : L[r]? = some (RowT v e xs)) (hm : P.cellsOf t = sz) (hsz : Rep.sz α = sz) (hj : i < xs.length)
    (hL : L.set r (RowT v e (xs.set i a)) = L') (h : ExL P n ops rest Q f L') : ExL P n ops (⟨none, .store t x y, ty, pos, af, none⟩ :: rest) Q f L := by
  subst hsz; subst hL
  have hp : 0 < Rep.sz α := Rep.pos
  refine ExL.eff rfl rfl (R := fun _ L2 => L2 = L.set r (RowT v e (xs.set i a))) (fun F w s => ?_) (fun v L2 e => by subst e; exact h)
  have hb : (i + 1) * Rep.sz α ≤ xs.length * Rep.sz α := Nat.mul_le_mul_right _ (by omega)
  rw [Nat.succ_mul] at hb
  obtain ⟨g, w', ⟨c, hv⟩, hrun, hre, hs2⟩ := row_write (P := P) (w := w) (o := i * Rep.sz α) (us := Rep.cells a) (xs' := xs.set i a) hi (by rw [Rep.len]; omega) (by rw [Rep.len]; exact hp) (Rep.one a) (by rw [Rep.len]; exact cellsOf_setA hj a) (by simp) s
  refine ⟨_, w', _, .inr ⟨?_, rfl⟩, hre, hs2, rfl⟩
  subst hv
  simp only [elt, addr_add, Nat.zero_add, Nat.add_zero] at hx
  simp [execOp, hx, hy, Instr.storeAt, Instr.sureAddr, storeVar, Value.cells, run_sizeOf' w hm hp, hrun, Rep.len]
end
end Go.Proofs.Ytcclbplccnaonaa
