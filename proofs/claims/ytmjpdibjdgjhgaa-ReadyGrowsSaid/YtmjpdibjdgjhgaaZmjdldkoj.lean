/- Several texts, one behind the other; each says in its head what it proves. No condition. -/
import Derived.Test.YtmjpdibjdgjhgaaZieodhbgd
import Derived.Test.YtmjpdibjdgjhgaaZfhkbfllp
import Derived.Test.YtmjpdibjdgjhgaaZfnbkdcio
import Derived.Test.YtmjpdibjdgjhgaaZodnjhhdn
import Derived.Test.YtmjpdibjdgjhgaaZelpbgfkl
import Derived.Test.YtmjpdibjdgjhgaaChecked
import Derived.Test.YtmjpdibjdgjhgaaZmjmbojbo
/- kithlaw12: the document's example, walked. No condition. -/
namespace Go.Proofs.Ytmjpdibjdgjhgaa
open Go.RowKit
set_option linter.unusedSimpArgs false
set_option linter.unusedVariables false
set_option maxRecDepth 20000
instance : EqT Try.prog 23 Clk := ⟨6, [.i .i64, .i .i64, .i .i64, .i .i64, .i .i64], by kernel_rfl, by kernel_rfl, by kernel_rfl, by kernel_rfl, fun _ => rfl, fun a b h => by
  obtain ⟨a1, a2, a3, a4, a5⟩ := a
  obtain ⟨b1, b2, b3, b4, b5⟩ := b
  simp only [Rep.cells, List.cons.injEq, Value.int.injEq, true_and, and_true] at h
  simp [h]⟩
def cy : List UInt8 := [99, 121]
def firstE : Ev := ⟨0, 1, ⟨0, 0, 0, 0, 0⟩, 1, ⟨1, cy, 0, []⟩⟩
def secondE : Ev := ⟨1, 2, ⟨0, 1, 0, 0, 0⟩, 2, ⟨1, cy, 0, []⟩⟩
theorem shown_drain : drain Clk.zero (freshL Clk.zero [secondE, firstE, firstE]) = ([firstE], [secondE], ⟨1, 0, 0, 0, 0⟩) := by
  have hf : freshL Clk.zero [secondE, firstE, firstE] = [secondE, firstE] := by decide
  have hd : Dst [secondE, firstE] := by rw [← hf]; exact freshL_dst _ _ _ List.Pairwise.nil
  have h1 : NextI Clk.zero [secondE, firstE] 1 := ⟨by decide, by decide, fun j hj hr => by
    match j, hj with
    | 0, _ => exact absurd (show secondE.rdy Clk.zero from hr) (by decide)
    | 1, _ => exact Int.le_refl _⟩
  have h2 : ∀ i, ¬ NextI ⟨1, 0, 0, 0, 0⟩ [secondE] i := fun i ⟨hi, hr, _⟩ => by
    match i, hi with
    | 0, _ => exact absurd (show secondE.rdy ⟨1, 0, 0, 0, 0⟩ from hr) (by decide)
  rw [hf, drain_step hd (by decide) h1]
  have hc : Clk.zero.set ([secondE, firstE][1]'(by decide)).r.toNat ([secondE, firstE][1]'(by decide)).n = ⟨1, 0, 0, 0, 0⟩ := by decide
  rw [hc, show [secondE, firstE].eraseIdx 1 = [secondE] from rfl, drain_stop h2]
  rfl
theorem Clk.I_zero : Clk.zero.I := fun i _ => by
  have : Clk.zero.get i = 0 := by
    match i with
    | 0 => rfl
    | 1 => rfl
    | 2 => rfl
    | 3 => rfl
    | 4 => rfl
    | i + 5 => simp [Clk.get]
  rw [this]; unfold I64; omega
set_option maxRecDepth 20000 attribute [local irreducible] Ex ExL Fn thn inb rnd fin meet Tab Mix mxEnd Val Sats RdT Rd RowT Row Blk Sub Fac ResV RVal Evs subs subs3 Hid Capd
theorem few12_F (v0 : Value) (l : List Ev) (M : List Assn) (hr : RdT M v0 l) : Fn Try.prog 15 #[v0] M fun v L' => RdT M v (l.take 40) ∧ L' = M := by
  refine Fn.of_ex Try.func15 rfl Try.ntmps15 rfl ?_
  (repeat' (first | refine ExL.val rJ rJ rJ rV ?_ | (first | refine Ex.seq ?_ | refine Ex.region ?_ | refine ExL.nil ?_ | refine thn_n ?_ | refine Ex.cond_t rJ ?_ | refine Ex.cond_f rJ ?_ | refine Ex.skip ?_ | refine Ex.block ?_ | refine Ex.exit ?_ | refine Ex.ret ?_ | refine thn_exit ?_ | refine thn_ret ?_ | refine inb_n ?_ | refine inb_hit rJ ?_ | refine inb_miss rJ ?_ | refine inb_ret ?_ | refine rnd_exit ?_ | refine rnd_ret ?_ | refine meet_ret ?_ | refine meet_exit ?_) | (apply exlGuard; first | refine ExL.gskip rJ rJ rJ rJ rJ rJ ?_ | refine ExL.gtake rJ rJ rJ rJ ?_ | refine ExL.gskipU rJ rJ rJ rJ ?_ | (refine ExL.gsplit rJ rJ rJ (fun h => ?_) (fun h => ?_) <;> try (exfalso; omega))) | (first | refine st_new_ rJ rE (fun g => ?_) | refine st_boxA rJ rJ (fun g => ?_) | refine st_box1 rJ rE rN (fun g => ?_) | (apply exlStore; first | refine st_store1_ _ rJ rK rE rN rJ rJ rE rE ?_ | refine st_storeW_ _ rJ rK rJ rC rJ rJ rJ rE ?_ | refine st_storeR _ rJ rK rJ rE rJ rJ rE ?_ | refine st_storeA_ _ rJ rK rJ rC rJ rJ rJ rE rE ?_ | refine st_storeB _ rJ rJ rO rO rK rJ rO ?_ | refine st_storeG _ rJ rK rE rN rJ rO (fun cs hcs => ?_)) | refine st_slice0 rJ rJ rJ rJ (fun g => ?_) | refine st_slice1T rJ rJ rJ rJ (fun g => ?_) | refine st_makeT rJ rJ rJ rJ rE rJ rO rO (fun v o => ?_) | (apply exlCopy; first | refine st_copyW _ rJ rE rK rE rD rJ rE rJ (fun zs hzs => ?_) | refine st_copyS _ rJ rJ rK rE rD rJ rE rJ rO rO (fun zs hzs => ?_)) | refine st_sliceB rJ rJ rJ rJ rJ rJ rJ rL rE rE rJ (fun g => ?_) | refine st_slice1I rJ rJ rJ rJ rJ rJ (fun g => ?_) | refine st_slice1B rJ rJ rJ rJ rJ rJ rO rO (fun g => ?_) | refine st_slice1S rJ rJ rJ rJ rJ rJ (fun g => ?_) | refine st_slice2B rJ rJ rJ rJ rJ rJ rJ rO rO rO rO (fun g => ?_) | (apply exlConv; first | refine st_bytes rJ rJ rJ rJ rJ rO (fun v o => ?_) | refine st_mark _ rJ rJ rK rJ rJ rJ ?_) | refine st_clear _ (0 : UInt8) rJ rK rJ rJ rJ rJ rJ rO ?_ | refine st_clearT _ rJ rK rO rJ rJ rO rE ?_ | (apply exlAppend; first | refine st_app0 rJ rJ rE rD rJ rE rJ rE rJ rJ rJ rO (fun v o => ?_) | refine st_app _ rJ rE rK rE rD rJ rE rJ rE rJ rJ rJ rO (fun v o => ?_) | refine st_shift _ rJ rJ rJ rK rO rJ rJ rJ rO rO rE ?_)) | (refine Ex.cond_d rJ (fun h => ?_) (fun h => ?_) <;> try (exfalso; omega))))
  (first | refine fin_ret rS ?_ | refine fin_norm rS ?_)
  refine ⟨_, rB, ?_, rfl⟩
  have h : l.take 40 = l.take (min (l.length : Int) 40).toNat := by
    by_cases hl : l.length ≤ 40
    · rw [List.take_of_length_le hl, List.take_of_length_le (by omega)]
    · congr 1; omega
  rw [h]
  exact rD
set_option maxHeartbeats 4000000 in
theorem shown12_fn (L : List Assn) : Fn Try.prog 13 #[] L fun v L' => v = .bool true ∧ L' = L := by
  refine Fn.of_ex Try.func13 rfl Try.ntmps13 rfl ?_
  (repeat' (first | refine ExL.val rJ rJ rJ rV ?_ | (first | refine Ex.seq ?_ | refine Ex.region ?_ | refine ExL.nil ?_ | refine thn_n ?_ | refine Ex.cond_t rJ ?_ | refine Ex.cond_f rJ ?_ | refine Ex.skip ?_ | refine Ex.block ?_ | refine Ex.exit ?_ | refine Ex.ret ?_ | refine thn_exit ?_ | refine thn_ret ?_ | refine inb_n ?_ | refine inb_hit rJ ?_ | refine inb_miss rJ ?_ | refine inb_ret ?_ | refine rnd_exit ?_ | refine rnd_ret ?_ | refine meet_ret ?_ | refine meet_exit ?_) | (apply exlGuard; first | refine ExL.gskip rJ rJ rJ rJ rJ rJ ?_ | refine ExL.gtake rJ rJ rJ rJ ?_ | refine ExL.gskipU rJ rJ rJ rJ ?_ | (refine ExL.gsplit rJ rJ rJ (fun h => ?_) (fun h => ?_) <;> try (exfalso; omega))) | (first | refine st_new_ rJ rE (fun g => ?_) | refine st_boxA rJ rJ (fun g => ?_) | refine st_box1 rJ rE rN (fun g => ?_) | (apply exlStore; first | refine st_store1_ _ rJ rK rE rN rJ rJ rE rE ?_ | refine st_storeW_ _ rJ rK rJ rC rJ rJ rJ rE ?_ | refine st_storeR _ rJ rK rJ rE rJ rJ rE ?_ | refine st_storeA_ _ rJ rK rJ rC rJ rJ rJ rE rE ?_ | refine st_storeB _ rJ rJ rO rO rK rJ rO ?_ | refine st_storeG _ rJ rK rE rN rJ rO (fun cs hcs => ?_)) | refine st_slice0 rJ rJ rJ rJ (fun g => ?_) | refine st_slice1T rJ rJ rJ rJ (fun g => ?_) | refine st_makeT rJ rJ rJ rJ rE rJ rO rO (fun v o => ?_) | (apply exlCopy; first | refine st_copyW _ rJ rE rK rE rD rJ rE rJ (fun zs hzs => ?_) | refine st_copyS _ rJ rJ rK rE rD rJ rE rJ rO rO (fun zs hzs => ?_)) | refine st_sliceB rJ rJ rJ rJ rJ rJ rJ rL rE rE rJ (fun g => ?_) | refine st_slice1I rJ rJ rJ rJ rJ rJ (fun g => ?_) | refine st_slice1B rJ rJ rJ rJ rJ rJ rO rO (fun g => ?_) | refine st_slice1S rJ rJ rJ rJ rJ rJ (fun g => ?_) | refine st_slice2B rJ rJ rJ rJ rJ rJ rJ rO rO rO rO (fun g => ?_) | (apply exlConv; first | refine st_bytes rJ rJ rJ rJ rJ rO (fun v o => ?_) | refine st_mark _ rJ rJ rK rJ rJ rJ ?_) | refine st_clear _ (0 : UInt8) rJ rK rJ rJ rJ rJ rJ rO ?_ | refine st_clearT _ rJ rK rO rJ rJ rO rE ?_ | (apply exlAppend; first | refine st_app0 rJ rJ rE rD rJ rE rJ rE rJ rJ rJ rO (fun v o => ?_) | refine st_app _ rJ rE rK rE rD rJ rE rJ rE rJ rJ rJ rO (fun v o => ?_) | refine st_shift _ rJ rJ rJ rK rO rJ rJ rJ rO rO rE ?_)) | (refine Ex.cond_d rJ (fun h => ?_) (fun h => ?_) <;> try (exfalso; omega))))
  refine st_sliceN (parts := [(0, .tmp 11), (1, .tmp 12), (2, .tmp 13)]) (ps := [(0, Rep.cells secondE), (1, Rep.cells firstE), (2, Rep.cells firstE)]) (vs := cellsOf [secondE, firstE, firstE]) (zs := Rep.cells Ev.zero) [secondE, firstE, firstE] rJ rJ rJ rJ rJ rJ (by kernel_rfl) rJ (evs_agg rJ (evs_agg rJ (evs_agg rJ evs_nil))) (by kernel_rfl) rfl rfl rfl (fun g => ?_)
  refine st_callIs [] rJ Try.call14 rJ rJ (drain_F Clk.zero _ [secondE, firstE, firstE] _ rD (by simp) (by intro e he; simp at he; rcases he with rfl | rfl <;> (unfold I64; decide)) Clk.I_zero) ?_
  rintro _ _ ⟨v1, v2, o1, o2, rfl, rfl⟩
  rw [shown_drain]
  (repeat' (first | refine ExL.val rJ rJ rJ rV ?_ | (first | refine Ex.seq ?_ | refine Ex.region ?_ | refine ExL.nil ?_ | refine thn_n ?_ | refine Ex.cond_t rJ ?_ | refine Ex.cond_f rJ ?_ | refine Ex.skip ?_ | refine Ex.block ?_ | refine Ex.exit ?_ | refine Ex.ret ?_ | refine thn_exit ?_ | refine thn_ret ?_ | refine inb_n ?_ | refine inb_hit rJ ?_ | refine inb_miss rJ ?_ | refine inb_ret ?_ | refine rnd_exit ?_ | refine rnd_ret ?_ | refine meet_ret ?_ | refine meet_exit ?_) | (apply exlGuard; first | refine ExL.gskip rJ rJ rJ rJ rJ rJ ?_ | refine ExL.gtake rJ rJ rJ rJ ?_ | refine ExL.gskipU rJ rJ rJ rJ ?_ | (refine ExL.gsplit rJ rJ rJ (fun h => ?_) (fun h => ?_) <;> try (exfalso; omega))) | (first | refine st_new_ rJ rE (fun g => ?_) | refine st_boxA rJ rJ (fun g => ?_) | refine st_box1 rJ rE rN (fun g => ?_) | (apply exlStore; first | refine st_store1_ _ rJ rK rE rN rJ rJ rE rE ?_ | refine st_storeW_ _ rJ rK rJ rC rJ rJ rJ rE ?_ | refine st_storeR _ rJ rK rJ rE rJ rJ rE ?_ | refine st_storeA_ _ rJ rK rJ rC rJ rJ rJ rE rE ?_ | refine st_storeB _ rJ rJ rO rO rK rJ rO ?_ | refine st_storeG _ rJ rK rE rN rJ rO (fun cs hcs => ?_)) | refine st_slice0 rJ rJ rJ rJ (fun g => ?_) | refine st_slice1T rJ rJ rJ rJ (fun g => ?_) | refine st_makeT rJ rJ rJ rJ rE rJ rO rO (fun v o => ?_) | (apply exlCopy; first | refine st_copyW _ rJ rE rK rE rD rJ rE rJ (fun zs hzs => ?_) | refine st_copyS _ rJ rJ rK rE rD rJ rE rJ rO rO (fun zs hzs => ?_)) | refine st_sliceB rJ rJ rJ rJ rJ rJ rJ rL rE rE rJ (fun g => ?_) | refine st_slice1I rJ rJ rJ rJ rJ rJ (fun g => ?_) | refine st_slice1B rJ rJ rJ rJ rJ rJ rO rO (fun g => ?_) | refine st_slice1S rJ rJ rJ rJ rJ rJ (fun g => ?_) | refine st_slice2B rJ rJ rJ rJ rJ rJ rJ rO rO rO rO (fun g => ?_) | (apply exlConv; first | refine st_bytes rJ rJ rJ rJ rJ rO (fun v o => ?_) | refine st_mark _ rJ rJ rK rJ rJ rJ ?_) | refine st_clear _ (0 : UInt8) rJ rK rJ rJ rJ rJ rJ rO ?_ | refine st_clearT _ rJ rK rO rJ rJ rO rE ?_ | (apply exlAppend; first | refine st_app0 rJ rJ rE rD rJ rE rJ rE rJ rJ rJ rO (fun v o => ?_) | refine st_app _ rJ rE rK rE rD rJ rE rJ rE rJ rJ rJ rO (fun v o => ?_) | refine st_shift _ rJ rJ rJ rK rO rJ rJ rJ rO rO rE ?_)) | (refine Ex.cond_d rJ (fun h => ?_) (fun h => ?_) <;> try (exfalso; omega))))
  (refine Ex.mixA 27 _ rfl (by kernel_rfl) (Fac.refl _) ?_; (repeat' (first | refine mx_val rJ rJ rJ rV ?_ | refine mx_nil ?_ | (first | refine mx_gskip rJ rJ rJ rJ ?_ | refine mx_gtake rJ rJ rJ ?_ | refine mx_gskipU rJ rJ rJ ?_) | (first | refine mx_slice1T rJ rJ rJ rJ (fun g => ?_) | refine mx_slice1I rJ rJ rJ rJ rJ rJ (fun g => ?_) | refine mx_slice1B rJ rJ rJ rJ rJ rJ rO rO (fun g => ?_) | refine mx_slice1S rJ rJ rJ rJ rJ rJ (fun g => ?_) | refine mx_slice2B rJ rJ rJ rJ rJ rJ rJ rO rO rO rO (fun g => ?_) | refine mx_alloc rJ rE (fun g => ?_) | refine mx_boxA rJ rJ (fun g => ?_) | refine mx_slice0 rJ rJ rJ rJ (fun g => ?_)) | (refine mx_gsplit rJ rJ rJ (fun h => ?_) (fun h => ?_) <;> try (exfalso; omega)) | (refine mx_act rJ rJ rJ ?_; (first | (apply exlCopy; first | refine st_copyW _ rJ rE rK rE rD rJ rE rJ (fun zs hzs => ?_) | refine st_copyS _ rJ rJ rK rE rD rJ rE rJ rO rO (fun zs hzs => ?_)) | (apply exlAppend; first | refine st_app0 rJ rJ rE rD rJ rE rJ rE rJ rJ rJ rO (fun v o => ?_) | refine st_app _ rJ rE rK rE rD rJ rE rJ rE rJ rJ rJ rO (fun v o => ?_) | refine st_shift _ rJ rJ rJ rK rO rJ rJ rJ rO rO rE ?_)); refine ExL.nil ?_; refine mxEnd_n rF ?_))))
  refine mx_val rJ rJ rJ (vl_eqlT_t (a := firstE) (b := firstE) rJ rJ rfl) ?_
  (repeat' (first | refine mx_val rJ rJ rJ rV ?_ | refine mx_nil ?_ | (first | refine mx_gskip rJ rJ rJ rJ ?_ | refine mx_gtake rJ rJ rJ ?_ | refine mx_gskipU rJ rJ rJ ?_) | (first | refine mx_slice1T rJ rJ rJ rJ (fun g => ?_) | refine mx_slice1I rJ rJ rJ rJ rJ rJ (fun g => ?_) | refine mx_slice1B rJ rJ rJ rJ rJ rJ rO rO (fun g => ?_) | refine mx_slice1S rJ rJ rJ rJ rJ rJ (fun g => ?_) | refine mx_slice2B rJ rJ rJ rJ rJ rJ rJ rO rO rO rO (fun g => ?_) | refine mx_alloc rJ rE (fun g => ?_) | refine mx_boxA rJ rJ (fun g => ?_) | refine mx_slice0 rJ rJ rJ rJ (fun g => ?_)) | (refine mx_gsplit rJ rJ rJ (fun h => ?_) (fun h => ?_) <;> try (exfalso; omega)) | (refine mx_act rJ rJ rJ ?_; (first | (apply exlCopy; first | refine st_copyW _ rJ rE rK rE rD rJ rE rJ (fun zs hzs => ?_) | refine st_copyS _ rJ rJ rK rE rD rJ rE rJ rO rO (fun zs hzs => ?_)) | (apply exlAppend; first | refine st_app0 rJ rJ rE rD rJ rE rJ rE rJ rJ rJ rO (fun v o => ?_) | refine st_app _ rJ rE rK rE rD rJ rE rJ rE rJ rJ rJ rO (fun v o => ?_) | refine st_shift _ rJ rJ rJ rK rO rJ rJ rJ rO rO rE ?_)); refine ExL.nil ?_; refine mxEnd_n rF ?_)))
  refine mx_val rJ rJ rJ (vl_eqlT_t (a := secondE) (b := secondE) rJ rJ rfl) ?_
  (repeat' (first | refine mx_val rJ rJ rJ rV ?_ | refine mx_nil ?_ | (first | refine mx_gskip rJ rJ rJ rJ ?_ | refine mx_gtake rJ rJ rJ ?_ | refine mx_gskipU rJ rJ rJ ?_) | (first | refine mx_slice1T rJ rJ rJ rJ (fun g => ?_) | refine mx_slice1I rJ rJ rJ rJ rJ rJ (fun g => ?_) | refine mx_slice1B rJ rJ rJ rJ rJ rJ rO rO (fun g => ?_) | refine mx_slice1S rJ rJ rJ rJ rJ rJ (fun g => ?_) | refine mx_slice2B rJ rJ rJ rJ rJ rJ rJ rO rO rO rO (fun g => ?_) | refine mx_alloc rJ rE (fun g => ?_) | refine mx_boxA rJ rJ (fun g => ?_) | refine mx_slice0 rJ rJ rJ rJ (fun g => ?_)) | (refine mx_gsplit rJ rJ rJ (fun h => ?_) (fun h => ?_) <;> try (exfalso; omega)) | (refine mx_act rJ rJ rJ ?_; (first | (apply exlCopy; first | refine st_copyW _ rJ rE rK rE rD rJ rE rJ (fun zs hzs => ?_) | refine st_copyS _ rJ rJ rK rE rD rJ rE rJ rO rO (fun zs hzs => ?_)) | (apply exlAppend; first | refine st_app0 rJ rJ rE rD rJ rE rJ rE rJ rJ rJ rO (fun v o => ?_) | refine st_app _ rJ rE rK rE rD rJ rE rJ rE rJ rJ rJ rO (fun v o => ?_) | refine st_shift _ rJ rJ rJ rK rO rJ rJ rJ rO rO rE ?_)); refine ExL.nil ?_; refine mxEnd_n rF ?_)))
  refine mx_val rJ rJ rJ (vl_eqlT_t (a := (⟨1, 0, 0, 0, 0⟩ : Clk)) (b := ⟨1, 0, 0, 0, 0⟩) rJ rJ rfl) ?_
  (repeat' (first | refine mx_val rJ rJ rJ rV ?_ | refine mx_nil ?_ | (first | refine mx_gskip rJ rJ rJ rJ ?_ | refine mx_gtake rJ rJ rJ ?_ | refine mx_gskipU rJ rJ rJ ?_) | (first | refine mx_slice1T rJ rJ rJ rJ (fun g => ?_) | refine mx_slice1I rJ rJ rJ rJ rJ rJ (fun g => ?_) | refine mx_slice1B rJ rJ rJ rJ rJ rJ rO rO (fun g => ?_) | refine mx_slice1S rJ rJ rJ rJ rJ rJ (fun g => ?_) | refine mx_slice2B rJ rJ rJ rJ rJ rJ rJ rO rO rO rO (fun g => ?_) | refine mx_alloc rJ rE (fun g => ?_) | refine mx_boxA rJ rJ (fun g => ?_) | refine mx_slice0 rJ rJ rJ rJ (fun g => ?_)) | (refine mx_gsplit rJ rJ rJ (fun h => ?_) (fun h => ?_) <;> try (exfalso; omega)) | (refine mx_act rJ rJ rJ ?_; (first | (apply exlCopy; first | refine st_copyW _ rJ rE rK rE rD rJ rE rJ (fun zs hzs => ?_) | refine st_copyS _ rJ rJ rK rE rD rJ rE rJ rO rO (fun zs hzs => ?_)) | (apply exlAppend; first | refine st_app0 rJ rJ rE rD rJ rE rJ rE rJ rJ rJ rO (fun v o => ?_) | refine st_app _ rJ rE rK rE rD rJ rE rJ rE rJ rJ rJ rO (fun v o => ?_) | refine st_shift _ rJ rJ rJ rK rO rJ rJ rJ rO rO rE ?_)); refine ExL.nil ?_; refine mxEnd_n rF ?_)))
  (repeat' (first | refine ExL.val rJ rJ rJ rV ?_ | (first | refine Ex.seq ?_ | refine Ex.region ?_ | refine ExL.nil ?_ | refine thn_n ?_ | refine Ex.cond_t rJ ?_ | refine Ex.cond_f rJ ?_ | refine Ex.skip ?_ | refine Ex.block ?_ | refine Ex.exit ?_ | refine Ex.ret ?_ | refine thn_exit ?_ | refine thn_ret ?_ | refine inb_n ?_ | refine inb_hit rJ ?_ | refine inb_miss rJ ?_ | refine inb_ret ?_ | refine rnd_exit ?_ | refine rnd_ret ?_ | refine meet_ret ?_ | refine meet_exit ?_) | (apply exlGuard; first | refine ExL.gskip rJ rJ rJ rJ rJ rJ ?_ | refine ExL.gtake rJ rJ rJ rJ ?_ | refine ExL.gskipU rJ rJ rJ rJ ?_ | (refine ExL.gsplit rJ rJ rJ (fun h => ?_) (fun h => ?_) <;> try (exfalso; omega))) | (first | refine st_new_ rJ rE (fun g => ?_) | refine st_boxA rJ rJ (fun g => ?_) | refine st_box1 rJ rE rN (fun g => ?_) | (apply exlStore; first | refine st_store1_ _ rJ rK rE rN rJ rJ rE rE ?_ | refine st_storeW_ _ rJ rK rJ rC rJ rJ rJ rE ?_ | refine st_storeR _ rJ rK rJ rE rJ rJ rE ?_ | refine st_storeA_ _ rJ rK rJ rC rJ rJ rJ rE rE ?_ | refine st_storeB _ rJ rJ rO rO rK rJ rO ?_ | refine st_storeG _ rJ rK rE rN rJ rO (fun cs hcs => ?_)) | refine st_slice0 rJ rJ rJ rJ (fun g => ?_) | refine st_slice1T rJ rJ rJ rJ (fun g => ?_) | refine st_makeT rJ rJ rJ rJ rE rJ rO rO (fun v o => ?_) | (apply exlCopy; first | refine st_copyW _ rJ rE rK rE rD rJ rE rJ (fun zs hzs => ?_) | refine st_copyS _ rJ rJ rK rE rD rJ rE rJ rO rO (fun zs hzs => ?_)) | refine st_sliceB rJ rJ rJ rJ rJ rJ rJ rL rE rE rJ (fun g => ?_) | refine st_slice1I rJ rJ rJ rJ rJ rJ (fun g => ?_) | refine st_slice1B rJ rJ rJ rJ rJ rJ rO rO (fun g => ?_) | refine st_slice1S rJ rJ rJ rJ rJ rJ (fun g => ?_) | refine st_slice2B rJ rJ rJ rJ rJ rJ rJ rO rO rO rO (fun g => ?_) | (apply exlConv; first | refine st_bytes rJ rJ rJ rJ rJ rO (fun v o => ?_) | refine st_mark _ rJ rJ rK rJ rJ rJ ?_) | refine st_clear _ (0 : UInt8) rJ rK rJ rJ rJ rJ rJ rO ?_ | refine st_clearT _ rJ rK rO rJ rJ rO rE ?_ | (apply exlAppend; first | refine st_app0 rJ rJ rE rD rJ rE rJ rE rJ rJ rJ rO (fun v o => ?_) | refine st_app _ rJ rE rK rE rD rJ rE rJ rE rJ rJ rJ rO (fun v o => ?_) | refine st_shift _ rJ rJ rJ rK rO rJ rJ rJ rO rO rE ?_)) | (refine Ex.cond_d rJ (fun h => ?_) (fun h => ?_) <;> try (exfalso; omega))))
  (first | refine fin_ret rS ?_ | refine fin_norm rS ?_)
  exact ⟨_, rB, rfl, rfl⟩
end Go.Proofs.Ytmjpdibjdgjhgaa
/- What is left of a drained list, in plain words. No condition. -/
namespace Go.Proofs.Ytmjpdibjdgjhgaa
open Go.RowKit
set_option linter.unusedSimpArgs false
set_option linter.unusedVariables false
theorem le_refl_clk (c : Clk) : c.le c = true := (Clk.le_iff c c).2 fun j _ => Int.le_refl _
theorem le_trans_clk {a b c : Clk} (h : a.le b = true) (k : b.le c = true) : a.le c = true :=
  (Clk.le_iff a c).2 fun j hj => Int.le_trans ((Clk.le_iff a b).1 h j hj) ((Clk.le_iff b c).1 k j hj)
theorem has_mono {a b : Clk} (h : a.le b = true) {r n : Int} (k : a.has r n = true) : b.has r n = true := by
  obtain ⟨h0, h1, h2, h3⟩ := (Clk.has_iff a r n).1 k
  exact (Clk.has_iff b r n).2 ⟨h0, h1, h2, Int.le_trans h3 ((Clk.le_iff a b).1 h _ (by omega))⟩
theorem rdy_le {c : Clk} {e : Ev} (h : e.rdy c) : c.le (c.set e.r.toNat e.n) = true := by
  obtain ⟨h0, h1, h2, h3, _⟩ := h
  refine (Clk.le_iff _ _).2 fun j hj => ?_
  rw [Clk.get_set _ _ _ _ (by omega)]
  split
  · rename_i hje; subst hje; omega
  · exact Int.le_refl _
theorem rdy_has {c : Clk} {e : Ev} (h : e.rdy c) : (c.set e.r.toNat e.n).has e.r e.n = true := by
  obtain ⟨h0, h1, h2, h3, _⟩ := h
  refine (Clk.has_iff _ _ _).2 ⟨h0, h1, h2, ?_⟩
  rw [Clk.get_set _ _ _ _ (by omega), if_pos rfl]
  exact Int.le_refl _
/-- Who was not seen, and has another mark, is not seen then. -/
theorem rdy_keep {c : Clk} {e x : Ev} (h : e.rdy c) (hx : c.has x.r x.n = false) (hne : x.mk_ ≠ e.mk_) : (c.set e.r.toNat e.n).has x.r x.n = false := by
  obtain ⟨h0, h1, h2, h3, _⟩ := h
  refine Clk.has_f fun ⟨k0, k1, k2, k3⟩ => ?_
  rw [Clk.get_set _ _ _ _ (by omega)] at k3
  split at k3
  · rename_i hre
    have hr : x.r = e.r := by omega
    have hn : x.n ≠ e.n := fun hn => hne (by simp only [Ev.mk_, hr, hn])
    have : c.has x.r x.n = true := (Clk.has_iff _ _ _).2 ⟨k0, k1, k2, by rw [hr]; omega⟩
    rw [this] at hx
    cases hx
  · have : c.has x.r x.n = true := (Clk.has_iff _ _ _).2 ⟨k0, k1, k2, k3⟩
    rw [this] at hx
    cases hx
theorem mem_erase_ne {l : List Ev} (hd : Dst l) {i : Nat} (hi : i < l.length) {x : Ev} (hx : x ∈ l.eraseIdx i) : x ∈ l ∧ x.mk_ ≠ (l[i]'hi).mk_ := by
  obtain ⟨j, hji, hj⟩ := List.mem_eraseIdx_iff_getElem?.1 hx
  obtain ⟨hjl, rfl⟩ := List.getElem?_eq_some_iff.1 hj
  exact ⟨List.getElem_mem hjl, fun h => hji (hd.inj hjl hi h)⟩
theorem drain_le (c : Clk) (l : List Ev) : Dst l → c.le (drain c l).2.2 = true := by
  refine drain_induct (motive := fun c l => Dst l → c.le (drain c l).2.2 = true) (fun c l h _ => ?_) (fun c l i hi h ih hd => ?_) c l
  · rw [drain_stop h]; exact le_refl_clk c
  · rw [drain_step hd hi h]
    exact le_trans_clk (rdy_le h.2.1) (ih (hd.erase i))
theorem drain_done (c : Clk) (l : List Ev) : Dst l → ∀ e ∈ (drain c l).1, (drain c l).2.2.has e.r e.n = true := by
  refine drain_induct (motive := fun c l => Dst l → ∀ e ∈ (drain c l).1, (drain c l).2.2.has e.r e.n = true) (fun c l h _ => ?_) (fun c l i hi h ih hd => ?_) c l
  · rw [drain_stop h]; intro e he; simp at he
  · rw [drain_step hd hi h]
    intro e he
    rcases List.mem_cons.1 he with rfl | he
    · exact has_mono (drain_le _ _ (hd.erase i)) (rdy_has h.2.1)
    · exact ih (hd.erase i) e he
theorem drain_left (c : Clk) (l : List Ev) : Dst l → (∀ e ∈ l, c.has e.r e.n = false) → ∀ e ∈ (drain c l).2.1, (drain c l).2.2.has e.r e.n = false := by
  refine drain_induct (motive := fun c l => Dst l → (∀ e ∈ l, c.has e.r e.n = false) → ∀ e ∈ (drain c l).2.1, (drain c l).2.2.has e.r e.n = false) (fun c l h _ hn => ?_) (fun c l i hi h ih hd hn => ?_) c l
  · rw [drain_stop h]; exact hn
  · rw [drain_step hd hi h]
    refine ih (hd.erase i) fun e he => ?_
    obtain ⟨h1, h2⟩ := mem_erase_ne hd hi he
    exact rdy_keep h.2.1 (hn e h1) h2
theorem drain_end (c : Clk) (l : List Ev) : Dst l → ∀ i, ¬ NextI (drain c l).2.2 (drain c l).2.1 i := by
  refine drain_induct (motive := fun c l => Dst l → ∀ i, ¬ NextI (drain c l).2.2 (drain c l).2.1 i) (fun c l h _ => ?_) (fun c l i hi h ih hd => ?_) c l
  · rw [drain_stop h]; exact h
  · rw [drain_step hd hi h]; exact ih (hd.erase i)
theorem drain_I (c : Clk) (l : List Ev) : Dst l → c.I → (∀ e ∈ l, I64 e.n) → (drain c l).2.2.I := by
  refine drain_induct (motive := fun c l => Dst l → c.I → (∀ e ∈ l, I64 e.n) → (drain c l).2.2.I) (fun c l h _ hc _ => ?_) (fun c l i hi h ih hd hc hl => ?_) c l
  · rw [drain_stop h]; exact hc
  · rw [drain_step hd hi h]
    have hr := h.2.1
    exact ih (hd.erase i) (hc.set (by have := hr.1; have := hr.2.1; omega) (hl _ (List.getElem_mem hi))) fun e he => hl e ((List.eraseIdx_sublist ..).subset he)
/-- How often a mark is there. -/
def cnt (k : Mk) (l : List Ev) : Nat := l.countP fun e => decide (e.mk_ = k)
theorem cnt_take (k : Mk) (l : List Ev) (i : Nat) (h : i < l.length) : cnt k (l.take (i + 1)) = cnt k (l.take i) + if (l[i]'h).mk_ = k then 1 else 0 := by
  unfold cnt
  rw [List.take_succ_eq_append_getElem h, List.countP_append]
  congr 1
  simp [List.countP_cons]
theorem cnt_erase (k : Mk) (l : List Ev) (i : Nat) (h : i < l.length) : cnt k l = (if (l[i]'h).mk_ = k then 1 else 0) + cnt k (l.eraseIdx i) := by
  unfold cnt
  have e : l = l.take i ++ l[i]'h :: l.drop (i + 1) := by rw [List.getElem_cons_drop, List.take_append_drop]
  rw [List.eraseIdx_eq_take_drop_succ]
  conv => lhs; rw [e]
  rw [List.countP_append, List.countP_append, List.countP_cons]
  simp only [decide_eq_true_eq]
  omega
theorem drain_cnt (k : Mk) (c : Clk) (l : List Ev) : Dst l → cnt k (drain c l).1 + cnt k (drain c l).2.1 = cnt k l := by
  refine drain_induct (motive := fun c l => Dst l → cnt k (drain c l).1 + cnt k (drain c l).2.1 = cnt k l) (fun c l h _ => ?_) (fun c l i hi h ih hd => ?_) c l
  · rw [drain_stop h]; simp [cnt]
  · rw [drain_step hd hi h, cnt_erase k l i hi]
    have := ih (hd.erase i)
    have e : ∀ (a : Ev) (t : List Ev), cnt k (a :: t) = (if a.mk_ = k then 1 else 0) + cnt k t := fun a t => by
      unfold cnt
      rw [List.countP_cons]
      simp only [decide_eq_true_eq]
      omega
    show cnt k ((l[i]'hi) :: (drain (c.set (l[i]'hi).r.toNat (l[i]'hi).n) (l.eraseIdx i)).1) + cnt k (drain (c.set (l[i]'hi).r.toNat (l[i]'hi).n) (l.eraseIdx i)).2.1 = _
    rw [e]
    omega
theorem cnt_le_one {l : List Ev} (hd : Dst l) (k : Mk) : cnt k l ≤ 1 := by
  induction l with
  | nil => simp [cnt]
  | cons a l ih =>
    have h2 := List.pairwise_cons.1 hd
    unfold cnt at ih ⊢
    rw [List.countP_cons]
    split
    · rename_i hk
      have : l.countP (fun e => decide (e.mk_ = k)) = 0 := List.countP_eq_zero.2 fun x hx => by
        have := h2.1 x hx
        rw [of_decide_eq_true hk] at this
        simpa using fun h : x.mk_ = k => this h.symm
      omega
    · have := ih h2.2; omega
/-- Each mark of a list is there once behind, if it was not seen; else not at all. -/
theorem closed_cnt (c : Clk) (w : List Ev) (x : Ev) (hx : x ∈ w) : cnt x.mk_ (drain c (freshL c w)).1 + cnt x.mk_ (drain c (freshL c w)).2.1 = if c.has x.r x.n = true then 0 else 1 := by
  have hd : Dst (freshL c w) := freshL_dst c w [] List.Pairwise.nil
  rw [drain_cnt _ _ _ hd]
  cases hh : c.has x.r x.n
  · rw [if_neg (by simp)]
    have h1 := cnt_le_one hd x.mk_
    have h2 : ((freshL c w).any fun y => decide (y.mk_ = x.mk_)) = true := by
      rw [freshL_any c w x hh]
      exact List.any_eq_true.2 ⟨x, hx, decide_eq_true rfl⟩
    have h3 : 0 < cnt x.mk_ (freshL c w) := by
      unfold cnt
      rw [List.countP_pos_iff]
      obtain ⟨y, hy, hyx⟩ := List.any_eq_true.1 h2
      exact ⟨y, hy, hyx⟩
    omega
  · rw [if_pos rfl]
    unfold cnt
    refine List.countP_eq_zero.2 fun y hy => ?_
    have h1 := freshL_has c w y hy
    intro h
    have h := of_decide_eq_true h
    have e1 : y.r = x.r := congrArg Mk.r h
    have e2 : y.n = x.n := congrArg Mk.n h
    rw [e1, e2, hh] at h1
    cases h1
theorem freshL_id {c : Clk} {l : List Ev} (hd : Dst l) (h : ∀ e ∈ l, c.has e.r e.n = false) : freshL c l = l := by
  have key : ∀ (l acc : List Ev), Dst (acc ++ l) → (∀ e ∈ l, c.has e.r e.n = false) → l.foldl (freshS c) acc = acc ++ l := by
    intro l
    induction l with
    | nil => intro acc _ _; simp
    | cons a l ih =>
      intro acc hd h
      have hs : freshS c acc a = acc ++ [a] := by
        unfold freshS
        rw [if_neg]
        rintro (hx | hx)
        · obtain ⟨y, hy, hya⟩ := List.any_eq_true.1 hx
          exact (List.pairwise_append.1 hd).2.2 y hy a (by simp) (of_decide_eq_true hya)
        · rw [h a (by simp)] at hx; cases hx
      rw [List.foldl_cons, hs, ih (acc ++ [a]) (by simpa using hd) (fun e he => h e (List.mem_cons_of_mem _ he))]
      simp
  exact key l [] hd h
theorem drain_again (c : Clk) (w : List Ev) : drain (drain c (freshL c w)).2.2 (freshL (drain c (freshL c w)).2.2 (drain c (freshL c w)).2.1) = ([], (drain c (freshL c w)).2.1, (drain c (freshL c w)).2.2) := by
  have hd : Dst (freshL c w) := freshL_dst c w [] List.Pairwise.nil
  rw [freshL_id (hd.sublist (drain_sub _ _ hd)) (drain_left _ _ hd (freshL_has c w))]
  exact drain_stop (drain_end _ _ hd)
end Go.Proofs.Ytmjpdibjdgjhgaa
/- A right past, made, in plain words. No condition. -/
namespace Go.Proofs.Ytmjpdibjdgjhgaa
open Go.RowKit
set_option linter.unusedSimpArgs false
set_option linter.unusedVariables false
/-- A choice. -/
structure Ch where
  r : Int
  from_ : Int
  sync : Bool
  ed : Ed
instance : Rep Ch := ⟨7, fun c => [.int .u8 c.r, .int .u8 c.from_, .bool c.sync, .int .i64 c.ed.kind, .string (S c.ed.key), .int .i64 c.ed.label, .string (S c.ed.value)], by decide, fun _ => rfl, fun _ => rfl⟩
structure Ch.Ok (c : Ch) : Prop where
  r : 0 ≤ c.r ∧ c.r ≤ 255
  f : 0 ≤ c.from_ ∧ c.from_ ≤ 255
  k : c.ed.key.length ≤ 140737488355328
  v : c.ed.value.length ≤ 140737488355328
def heightS (c : Clk) (s : Int × Bool) (e : Ev) : Int × Bool := if c.has e.r e.n = true ∧ (s.2 = false ∨ s.1 < e.h) then (e.h, true) else s
def heightP (out : List Ev) (c : Clk) : Int := (out.foldl (heightS c) (0, false)).1 + 1
/-- What is made so far, and what each replica has. -/
def mkStep (s : List Ev × List Clk) (ch : Ch) : List Ev × List Clk :=
  let c := s.2.getD (ch.r % 5).toNat Clk.zero
  if ch.sync = true then (s.1, s.2.set (ch.r % 5).toNat (c.join (s.2.getD (ch.from_ % 5).toNat Clk.zero)))
  else (s.1 ++ [⟨ch.r % 5, c.get (ch.r % 5).toNat + 1, c, heightP s.1 c, ch.ed.fit⟩], s.2.set (ch.r % 5).toNat (c.set (ch.r % 5).toNat (c.get (ch.r % 5).toNat + 1)))
def makeS (l : List Ch) : List Ev × List Clk := l.foldl mkStep ([], List.replicate 5 Clk.zero)
def makeP (l : List Ch) : List Ev := (makeS l).1
theorem makeS_take (l : List Ch) (i : Nat) (h : i < l.length) : makeS (l.take (i + 1)) = mkStep (makeS (l.take i)) (l[i]'h) := by
  rw [List.take_succ_eq_append_getElem h]
  unfold makeS
  rw [List.foldl_append]
  rfl
/-- Small numbers. -/
structure MkOk (m : Int) (s : List Ev × List Clk) : Prop where
  five : s.2.length = 5
  clk : ∀ c ∈ s.2, ∀ j, 0 ≤ c.get j ∧ c.get j ≤ m
  len : (s.1.length : Int) ≤ m
  n : ∀ e ∈ s.1, 1 ≤ e.n ∧ e.n ≤ m
  r : ∀ e ∈ s.1, 0 ≤ e.r ∧ e.r < 5
  h : ∀ e ∈ s.1, 1 ≤ e.h ∧ e.h ≤ m
theorem clk_join_get (a b : Clk) (j : Nat) : (a.join b).get j = max (a.get j) (b.get j) ∨ (a.join b).get j = 0 := by
  match j with
  | 0 => exact .inl rfl
  | 1 => exact .inl rfl
  | 2 => exact .inl rfl
  | 3 => exact .inl rfl
  | 4 => exact .inl rfl
  | j + 5 => right; simp [Clk.get]
theorem height_bd {out : List Ev} {c : Clk} {m : Int} (h : ∀ e ∈ out, 1 ≤ e.h ∧ e.h ≤ m) (hm : 0 ≤ m) : 0 ≤ (out.foldl (heightS c) (0, false)).1 ∧ (out.foldl (heightS c) (0, false)).1 ≤ m := by
  have key : ∀ (l : List Ev) (s : Int × Bool), (∀ e ∈ l, 1 ≤ e.h ∧ e.h ≤ m) → 0 ≤ s.1 ∧ s.1 ≤ m → 0 ≤ (l.foldl (heightS c) s).1 ∧ (l.foldl (heightS c) s).1 ≤ m := by
    intro l
    induction l with
    | nil => intro s _ h; exact h
    | cons a l ih =>
      intro s hl hs
      refine ih _ (fun e he => hl e (List.mem_cons_of_mem _ he)) ?_
      have := hl a (List.mem_cons_self ..)
      unfold heightS
      split
      · exact ⟨by show 0 ≤ a.h; omega, this.2⟩
      · exact hs
  exact key out (0, false) h ⟨Int.le_refl _, hm⟩
theorem getD_mem {s : List Clk} (h5 : s.length = 5) {r : Int} (h0 : 0 ≤ r ∧ r ≤ 255) : ∃ h : (r % 5).toNat < s.length, s.getD (r % 5).toNat Clk.zero = s[(r % 5).toNat]'h := by
  have h : (r % 5).toNat < s.length := by omega
  exact ⟨h, by simp [List.getD, h]⟩
theorem MkOk.step {m : Int} {s : List Ev × List Clk} (k : MkOk m s) {ch : Ch} (hc : ch.Ok) (hm : 0 ≤ m) : MkOk (m + 1) (mkStep s ch) := by
  obtain ⟨h5, h1, h2, h3, h4, h6⟩ := k
  obtain ⟨hl, he⟩ := getD_mem h5 hc.r
  obtain ⟨hl2, he2⟩ := getD_mem h5 hc.f
  have hcm := h1 _ (List.getElem_mem hl)
  have hcm2 := h1 _ (List.getElem_mem hl2)
  rw [← he] at hcm
  rw [← he2] at hcm2
  unfold mkStep
  simp only
  split
  · refine ⟨by simpa using h5, fun c hx j => ?_, by show (s.1.length : Int) ≤ m + 1; omega, fun e hx => by have := h3 e hx; omega, h4, fun e hx => by have := h6 e hx; omega⟩
    rcases List.mem_or_eq_of_mem_set hx with hx | rfl
    · have := h1 c hx j; omega
    · have a := hcm j
      have b := hcm2 j
      rcases clk_join_get (s.2.getD (ch.r % 5).toNat Clk.zero) (s.2.getD (ch.from_ % 5).toNat Clk.zero) j with h | h <;> rw [h] <;> omega
  · have hg := hcm (ch.r % 5).toNat
    have hb := height_bd (c := s.2.getD (ch.r % 5).toNat Clk.zero) h6 hm
    refine ⟨by simpa using h5, fun c hx j => ?_, by simp; omega, fun e hx => ?_, fun e hx => ?_, fun e hx => ?_⟩
    · rcases List.mem_or_eq_of_mem_set hx with hx | rfl
      · have := h1 c hx j; omega
      · rw [Clk.get_set _ _ _ _ (by omega)]
        split
        · omega
        · have := hcm j; omega
    · rcases List.mem_append.1 hx with hx | hx
      · have := h3 e hx; omega
      · simp only [List.mem_singleton] at hx; subst hx; simp only; omega
    · rcases List.mem_append.1 hx with hx | hx
      · exact h4 e hx
      · simp only [List.mem_singleton] at hx; subst hx; simp only; omega
    · rcases List.mem_append.1 hx with hx | hx
      · have := h6 e hx; omega
      · simp only [List.mem_singleton] at hx; subst hx; simp only [heightP]; omega
theorem makeS_ok (l : List Ch) (h : ∀ c ∈ l, c.Ok) : MkOk l.length (makeS l) := by
  have key : ∀ i, i ≤ l.length → MkOk i (makeS (l.take i)) := by
    intro i
    induction i with
    | zero =>
      intro _
      refine ⟨rfl, fun c hc j => ?_, by simp [makeS], by simp [makeS], by simp [makeS], by simp [makeS]⟩
      have : c = Clk.zero := List.eq_of_mem_replicate hc
      subst this
      match j with
      | 0 => decide
      | 1 => decide
      | 2 => decide
      | 3 => decide
      | 4 => decide
      | j + 5 => simp [Clk.get]
    | succ i ih =>
      intro hi
      rw [makeS_take l i (by omega)]
      have := (ih (by omega)).step (h _ (List.getElem_mem (by omega : i < l.length))) (by omega)
      simpa using this
  have := key l.length (Nat.le_refl _)
  rwa [List.take_length] at this
end Go.Proofs.Ytmjpdibjdgjhgaa
/- Package text over parts of memory. No condition. -/
namespace Go.Proofs.Ytmjpdibjdgjhgaa
open Go.RowKit
set_option linter.unusedSimpArgs false
set_option linter.unusedVariables false
def keyE (l : List UInt8) : Int := if 1 ≤ l.length ∧ l.length ≤ 8 ∧ l.all letter = true then 0 else 10
def labelE (n : Int) : Int := if 0 ≤ n ∧ n < 2 then 0 else 11
def valueE (l : List UInt8) : Int := if 1 ≤ l.length ∧ l.length ≤ 12 then 0 else 12
/-- What is told of an edit. -/
def Ed.err (e : Ed) : Int :=
  if e.kind < 1 ∨ 5 < e.kind then 1 else if keyE e.key ≠ 0 then keyE e.key
  else if e.kind = 1 ∨ e.kind = 2 then (if e.label ≠ 0 then 11 else if e.value ≠ [] then 12 else 0)
  else if labelE e.label ≠ 0 then labelE e.label else valueE e.value
theorem keyErr_S (l : List UInt8) : keyErr (S l) = keyE l := by simp [keyErr, keyE, S_size]
theorem valueErr_S (l : List UInt8) : valueErr (S l) = valueE l := by simp [valueErr, valueE, S_size]
theorem key_fnE (s : List UInt8) (L : List Assn) (hs : s.length ≤ 9223372036854775807) : Fn Try.prog 65 #[.string (S s)] L fun v L' => v = .int .i64 (keyE s) ∧ L' = L := by
  rw [← keyErr_S]; exact Fn.of_kp fun w => text_Key _ w (by rw [S_size]; exact hs)
theorem label_fnE (n : Int) (L : List Assn) : Fn Try.prog 66 #[.int .i64 n] L fun v L' => v = .int .i64 (labelE n) ∧ L' = L := Fn.of_kp fun w => text_Label n w
theorem value_fnE (s : List UInt8) (L : List Assn) (hs : s.length ≤ 9223372036854775807) : Fn Try.prog 67 #[.string (S s)] L fun v L' => v = .int .i64 (valueE s) ∧ L' = L := by
  rw [← valueErr_S]; exact Fn.of_kp fun w => text_Value _ w (by rw [S_size]; exact hs)
set_option maxRecDepth 20000 attribute [local irreducible] Ex ExL Fn thn inb rnd fin meet Tab Mix mxEnd Val Sats RdT Rd RowT Row Blk Sub Fac ResV RVal Evs subs subs3 Hid Capd
set_option maxHeartbeats 1000000 in
theorem textEdit_fn (e : Ed) (L : List Assn) (hk : e.key.length ≤ 9223372036854775807) (hv : e.value.length ≤ 9223372036854775807) : Fn Try.prog 62 #[.agg (Rep.cells e).toArray] L fun v L' => v = .int .i64 e.err ∧ L' = L := by
  have h10 : keyE e.key = 0 ∨ keyE e.key = 10 := by unfold keyE; split <;> simp
  have h11 : labelE e.label = 0 ∨ labelE e.label = 11 := by unfold labelE; split <;> simp
  refine Fn.of_ex Try.func62 rfl Try.ntmps62 rfl ?_
  (repeat' (first | refine ExL.val rJ rJ rJ rV ?_ | (first | refine Ex.seq ?_ | refine Ex.region ?_ | refine ExL.nil ?_ | refine thn_n ?_ | refine Ex.cond_t rJ ?_ | refine Ex.cond_f rJ ?_ | refine Ex.skip ?_ | refine Ex.block ?_ | refine Ex.exit ?_ | refine Ex.ret ?_ | refine thn_exit ?_ | refine thn_ret ?_ | refine inb_n ?_ | refine inb_hit rJ ?_ | refine inb_miss rJ ?_ | refine inb_ret ?_ | refine rnd_exit ?_ | refine rnd_ret ?_ | refine meet_ret ?_ | refine meet_exit ?_) | (apply exlGuard; first | refine ExL.gskip rJ rJ rJ rJ rJ rJ ?_ | refine ExL.gtake rJ rJ rJ rJ ?_ | refine ExL.gskipU rJ rJ rJ rJ ?_ | (refine ExL.gsplit rJ rJ rJ (fun h => ?_) (fun h => ?_) <;> try (exfalso; omega))) | (first | refine st_new_ rJ rE (fun g => ?_) | refine st_boxA rJ rJ (fun g => ?_) | refine st_box1 rJ rE rN (fun g => ?_) | (apply exlStore; first | refine st_store1_ _ rJ rK rE rN rJ rJ rE rE ?_ | refine st_storeW_ _ rJ rK rJ rC rJ rJ rJ rE ?_ | refine st_storeR _ rJ rK rJ rE rJ rJ rE ?_ | refine st_storeA_ _ rJ rK rJ rC rJ rJ rJ rE rE ?_ | refine st_storeB _ rJ rJ rO rO rK rJ rO ?_ | refine st_storeG _ rJ rK rE rN rJ rO (fun cs hcs => ?_)) | refine st_slice0 rJ rJ rJ rJ (fun g => ?_) | refine st_slice1T rJ rJ rJ rJ (fun g => ?_) | refine st_makeT rJ rJ rJ rJ rE rJ rO rO (fun v o => ?_) | (apply exlCopy; first | refine st_copyW _ rJ rE rK rE rD rJ rE rJ (fun zs hzs => ?_) | refine st_copyS _ rJ rJ rK rE rD rJ rE rJ rO rO (fun zs hzs => ?_)) | refine st_sliceB rJ rJ rJ rJ rJ rJ rJ rL rE rE rJ (fun g => ?_) | refine st_slice1I rJ rJ rJ rJ rJ rJ (fun g => ?_) | refine st_slice1B rJ rJ rJ rJ rJ rJ rO rO (fun g => ?_) | refine st_slice1S rJ rJ rJ rJ rJ rJ (fun g => ?_) | refine st_slice2B rJ rJ rJ rJ rJ rJ rJ rO rO rO rO (fun g => ?_) | (apply exlConv; first | refine st_bytes rJ rJ rJ rJ rJ rO (fun v o => ?_) | refine st_mark _ rJ rJ rK rJ rJ rJ ?_) | refine st_clear _ (0 : UInt8) rJ rK rJ rJ rJ rJ rJ rO ?_ | refine st_clearT _ rJ rK rO rJ rJ rO rE ?_ | (apply exlAppend; first | refine st_app0 rJ rJ rE rD rJ rE rJ rE rJ rJ rJ rO (fun v o => ?_) | refine st_app _ rJ rE rK rE rD rJ rE rJ rE rJ rJ rJ rO (fun v o => ?_) | refine st_shift _ rJ rJ rJ rK rO rJ rJ rJ rO rO rE ?_)) | (refine Ex.cond_d rJ (fun h => ?_) (fun h => ?_) <;> try (exfalso; omega))))
  · (first | refine fin_ret rS ?_ | refine fin_norm rS ?_)
    exact ⟨_, rB, vint (by unfold Ed.err; rw [if_pos (by omega)]), rfl⟩
  · (first | refine fin_ret rS ?_ | refine fin_norm rS ?_)
    exact ⟨_, rB, vint (by unfold Ed.err; rw [if_pos (by omega)]), rfl⟩
  (refine st_callIs [] rJ Try.call65 rJ rJ (key_fnE _ _ hk) ?_; rintro _ _ ⟨rfl, rfl⟩)
  (repeat' (first | refine ExL.val rJ rJ rJ rV ?_ | (first | refine Ex.seq ?_ | refine Ex.region ?_ | refine ExL.nil ?_ | refine thn_n ?_ | refine Ex.cond_t rJ ?_ | refine Ex.cond_f rJ ?_ | refine Ex.skip ?_ | refine Ex.block ?_ | refine Ex.exit ?_ | refine Ex.ret ?_ | refine thn_exit ?_ | refine thn_ret ?_ | refine inb_n ?_ | refine inb_hit rJ ?_ | refine inb_miss rJ ?_ | refine inb_ret ?_ | refine rnd_exit ?_ | refine rnd_ret ?_ | refine meet_ret ?_ | refine meet_exit ?_) | (apply exlGuard; first | refine ExL.gskip rJ rJ rJ rJ rJ rJ ?_ | refine ExL.gtake rJ rJ rJ rJ ?_ | refine ExL.gskipU rJ rJ rJ rJ ?_ | (refine ExL.gsplit rJ rJ rJ (fun h => ?_) (fun h => ?_) <;> try (exfalso; omega))) | (first | refine st_new_ rJ rE (fun g => ?_) | refine st_boxA rJ rJ (fun g => ?_) | refine st_box1 rJ rE rN (fun g => ?_) | (apply exlStore; first | refine st_store1_ _ rJ rK rE rN rJ rJ rE rE ?_ | refine st_storeW_ _ rJ rK rJ rC rJ rJ rJ rE ?_ | refine st_storeR _ rJ rK rJ rE rJ rJ rE ?_ | refine st_storeA_ _ rJ rK rJ rC rJ rJ rJ rE rE ?_ | refine st_storeB _ rJ rJ rO rO rK rJ rO ?_ | refine st_storeG _ rJ rK rE rN rJ rO (fun cs hcs => ?_)) | refine st_slice0 rJ rJ rJ rJ (fun g => ?_) | refine st_slice1T rJ rJ rJ rJ (fun g => ?_) | refine st_makeT rJ rJ rJ rJ rE rJ rO rO (fun v o => ?_) | (apply exlCopy; first | refine st_copyW _ rJ rE rK rE rD rJ rE rJ (fun zs hzs => ?_) | refine st_copyS _ rJ rJ rK rE rD rJ rE rJ rO rO (fun zs hzs => ?_)) | refine st_sliceB rJ rJ rJ rJ rJ rJ rJ rL rE rE rJ (fun g => ?_) | refine st_slice1I rJ rJ rJ rJ rJ rJ (fun g => ?_) | refine st_slice1B rJ rJ rJ rJ rJ rJ rO rO (fun g => ?_) | refine st_slice1S rJ rJ rJ rJ rJ rJ (fun g => ?_) | refine st_slice2B rJ rJ rJ rJ rJ rJ rJ rO rO rO rO (fun g => ?_) | (apply exlConv; first | refine st_bytes rJ rJ rJ rJ rJ rO (fun v o => ?_) | refine st_mark _ rJ rJ rK rJ rJ rJ ?_) | refine st_clear _ (0 : UInt8) rJ rK rJ rJ rJ rJ rJ rO ?_ | refine st_clearT _ rJ rK rO rJ rJ rO rE ?_ | (apply exlAppend; first | refine st_app0 rJ rJ rE rD rJ rE rJ rE rJ rJ rJ rO (fun v o => ?_) | refine st_app _ rJ rE rK rE rD rJ rE rJ rE rJ rJ rJ rO (fun v o => ?_) | refine st_shift _ rJ rJ rJ rK rO rJ rJ rJ rO rO rE ?_)) | (refine Ex.cond_d rJ (fun h => ?_) (fun h => ?_) <;> try (exfalso; omega))))
  all_goals first
    | ((refine st_callIs [] rJ Try.call66 rJ rJ (label_fnE _ _) ?_; rintro _ _ ⟨rfl, rfl⟩); (repeat' (first | refine ExL.val rJ rJ rJ rV ?_ | (first | refine Ex.seq ?_ | refine Ex.region ?_ | refine ExL.nil ?_ | refine thn_n ?_ | refine Ex.cond_t rJ ?_ | refine Ex.cond_f rJ ?_ | refine Ex.skip ?_ | refine Ex.block ?_ | refine Ex.exit ?_ | refine Ex.ret ?_ | refine thn_exit ?_ | refine thn_ret ?_ | refine inb_n ?_ | refine inb_hit rJ ?_ | refine inb_miss rJ ?_ | refine inb_ret ?_ | refine rnd_exit ?_ | refine rnd_ret ?_ | refine meet_ret ?_ | refine meet_exit ?_) | (apply exlGuard; first | refine ExL.gskip rJ rJ rJ rJ rJ rJ ?_ | refine ExL.gtake rJ rJ rJ rJ ?_ | refine ExL.gskipU rJ rJ rJ rJ ?_ | (refine ExL.gsplit rJ rJ rJ (fun h => ?_) (fun h => ?_) <;> try (exfalso; omega))) | (first | refine st_new_ rJ rE (fun g => ?_) | refine st_boxA rJ rJ (fun g => ?_) | refine st_box1 rJ rE rN (fun g => ?_) | (apply exlStore; first | refine st_store1_ _ rJ rK rE rN rJ rJ rE rE ?_ | refine st_storeW_ _ rJ rK rJ rC rJ rJ rJ rE ?_ | refine st_storeR _ rJ rK rJ rE rJ rJ rE ?_ | refine st_storeA_ _ rJ rK rJ rC rJ rJ rJ rE rE ?_ | refine st_storeB _ rJ rJ rO rO rK rJ rO ?_ | refine st_storeG _ rJ rK rE rN rJ rO (fun cs hcs => ?_)) | refine st_slice0 rJ rJ rJ rJ (fun g => ?_) | refine st_slice1T rJ rJ rJ rJ (fun g => ?_) | refine st_makeT rJ rJ rJ rJ rE rJ rO rO (fun v o => ?_) | (apply exlCopy; first | refine st_copyW _ rJ rE rK rE rD rJ rE rJ (fun zs hzs => ?_) | refine st_copyS _ rJ rJ rK rE rD rJ rE rJ rO rO (fun zs hzs => ?_)) | refine st_sliceB rJ rJ rJ rJ rJ rJ rJ rL rE rE rJ (fun g => ?_) | refine st_slice1I rJ rJ rJ rJ rJ rJ (fun g => ?_) | refine st_slice1B rJ rJ rJ rJ rJ rJ rO rO (fun g => ?_) | refine st_slice1S rJ rJ rJ rJ rJ rJ (fun g => ?_) | refine st_slice2B rJ rJ rJ rJ rJ rJ rJ rO rO rO rO (fun g => ?_) | (apply exlConv; first | refine st_bytes rJ rJ rJ rJ rJ rO (fun v o => ?_) | refine st_mark _ rJ rJ rK rJ rJ rJ ?_) | refine st_clear _ (0 : UInt8) rJ rK rJ rJ rJ rJ rJ rO ?_ | refine st_clearT _ rJ rK rO rJ rJ rO rE ?_ | (apply exlAppend; first | refine st_app0 rJ rJ rE rD rJ rE rJ rE rJ rJ rJ rO (fun v o => ?_) | refine st_app _ rJ rE rK rE rD rJ rE rJ rE rJ rJ rJ rO (fun v o => ?_) | refine st_shift _ rJ rJ rJ rK rO rJ rJ rJ rO rO rE ?_)) | (refine Ex.cond_d rJ (fun h => ?_) (fun h => ?_) <;> try (exfalso; omega)))))
    | skip
  all_goals first
    | ((refine st_callIs [] rJ Try.call67 rJ rJ (value_fnE _ _ hv) ?_; rintro _ _ ⟨rfl, rfl⟩); (repeat' (first | refine ExL.val rJ rJ rJ rV ?_ | (first | refine Ex.seq ?_ | refine Ex.region ?_ | refine ExL.nil ?_ | refine thn_n ?_ | refine Ex.cond_t rJ ?_ | refine Ex.cond_f rJ ?_ | refine Ex.skip ?_ | refine Ex.block ?_ | refine Ex.exit ?_ | refine Ex.ret ?_ | refine thn_exit ?_ | refine thn_ret ?_ | refine inb_n ?_ | refine inb_hit rJ ?_ | refine inb_miss rJ ?_ | refine inb_ret ?_ | refine rnd_exit ?_ | refine rnd_ret ?_ | refine meet_ret ?_ | refine meet_exit ?_) | (apply exlGuard; first | refine ExL.gskip rJ rJ rJ rJ rJ rJ ?_ | refine ExL.gtake rJ rJ rJ rJ ?_ | refine ExL.gskipU rJ rJ rJ rJ ?_ | (refine ExL.gsplit rJ rJ rJ (fun h => ?_) (fun h => ?_) <;> try (exfalso; omega))) | (first | refine st_new_ rJ rE (fun g => ?_) | refine st_boxA rJ rJ (fun g => ?_) | refine st_box1 rJ rE rN (fun g => ?_) | (apply exlStore; first | refine st_store1_ _ rJ rK rE rN rJ rJ rE rE ?_ | refine st_storeW_ _ rJ rK rJ rC rJ rJ rJ rE ?_ | refine st_storeR _ rJ rK rJ rE rJ rJ rE ?_ | refine st_storeA_ _ rJ rK rJ rC rJ rJ rJ rE rE ?_ | refine st_storeB _ rJ rJ rO rO rK rJ rO ?_ | refine st_storeG _ rJ rK rE rN rJ rO (fun cs hcs => ?_)) | refine st_slice0 rJ rJ rJ rJ (fun g => ?_) | refine st_slice1T rJ rJ rJ rJ (fun g => ?_) | refine st_makeT rJ rJ rJ rJ rE rJ rO rO (fun v o => ?_) | (apply exlCopy; first | refine st_copyW _ rJ rE rK rE rD rJ rE rJ (fun zs hzs => ?_) | refine st_copyS _ rJ rJ rK rE rD rJ rE rJ rO rO (fun zs hzs => ?_)) | refine st_sliceB rJ rJ rJ rJ rJ rJ rJ rL rE rE rJ (fun g => ?_) | refine st_slice1I rJ rJ rJ rJ rJ rJ (fun g => ?_) | refine st_slice1B rJ rJ rJ rJ rJ rJ rO rO (fun g => ?_) | refine st_slice1S rJ rJ rJ rJ rJ rJ (fun g => ?_) | refine st_slice2B rJ rJ rJ rJ rJ rJ rJ rO rO rO rO (fun g => ?_) | (apply exlConv; first | refine st_bytes rJ rJ rJ rJ rJ rO (fun v o => ?_) | refine st_mark _ rJ rJ rK rJ rJ rJ ?_) | refine st_clear _ (0 : UInt8) rJ rK rJ rJ rJ rJ rJ rO ?_ | refine st_clearT _ rJ rK rO rJ rJ rO rE ?_ | (apply exlAppend; first | refine st_app0 rJ rJ rE rD rJ rE rJ rE rJ rJ rJ rO (fun v o => ?_) | refine st_app _ rJ rE rK rE rD rJ rE rJ rE rJ rJ rJ rO (fun v o => ?_) | refine st_shift _ rJ rJ rJ rK rO rJ rJ rJ rO rO rE ?_)) | (refine Ex.cond_d rJ (fun h => ?_) (fun h => ?_) <;> try (exfalso; omega)))))
    | skip
  all_goals
    (first | refine fin_ret rS ?_ | refine fin_norm rS ?_)
    refine ⟨_, rB, vint ?_, rfl⟩
    unfold Ed.err
    repeat (first | rw [if_pos (by first | omega | assumption)] | rw [if_neg (by first | omega | assumption)])
end Go.Proofs.Ytmjpdibjdgjhgaa
/- kithref05.Fit, walked. No condition. -/
namespace Go.Proofs.Ytmjpdibjdgjhgaa
open Go.RowKit
set_option linter.unusedSimpArgs false
set_option linter.unusedVariables false
set_option maxRecDepth 20000 attribute [local irreducible] Ex ExL Fn thn inb rnd fin meet Tab Mix mxEnd Val Sats RdT Rd RowT Row Blk Sub Fac ResV RVal Evs subs subs3 Hid Capd
set_option maxHeartbeats 1000000 in
theorem fit_spec (e : Ed) (L : List Assn) (hk : e.key.length ≤ 140737488355328) (hv : e.value.length ≤ 140737488355328) : Fn Try.prog 42 #[e.val] L fun v L' => v = e.fit.val ∧ L' = L := by
  obtain ⟨kind, key, label, value⟩ := e
  have ht := tmod5 kind
  simp only [Ed.val, Ed.cells] at *
  refine Fn.of_ex Try.func42 rfl Try.ntmps42 rfl ?_
  (repeat' (first | refine ExL.val rJ rJ rJ rV ?_ | (first | refine Ex.seq ?_ | refine Ex.region ?_ | refine ExL.nil ?_ | refine thn_n ?_ | refine Ex.cond_t rJ ?_ | refine Ex.cond_f rJ ?_ | refine Ex.skip ?_ | refine Ex.block ?_ | refine Ex.exit ?_ | refine Ex.ret ?_ | refine thn_exit ?_ | refine thn_ret ?_ | refine inb_n ?_ | refine inb_hit rJ ?_ | refine inb_miss rJ ?_ | refine inb_ret ?_ | refine rnd_exit ?_ | refine rnd_ret ?_ | refine meet_ret ?_ | refine meet_exit ?_) | (apply exlGuard; first | refine ExL.gskip rJ rJ rJ rJ rJ rJ ?_ | refine ExL.gtake rJ rJ rJ rJ ?_ | refine ExL.gskipU rJ rJ rJ rJ ?_ | (refine ExL.gsplit rJ rJ rJ (fun h => ?_) (fun h => ?_) <;> try (exfalso; omega))) | (first | refine st_new_ rJ rE (fun g => ?_) | refine st_boxA rJ rJ (fun g => ?_) | refine st_box1 rJ rE rN (fun g => ?_) | (apply exlStore; first | refine st_store1_ _ rJ rK rE rN rJ rJ rE rE ?_ | refine st_storeW_ _ rJ rK rJ rC rJ rJ rJ rE ?_ | refine st_storeR _ rJ rK rJ rE rJ rJ rE ?_ | refine st_storeA_ _ rJ rK rJ rC rJ rJ rJ rE rE ?_ | refine st_storeB _ rJ rJ rO rO rK rJ rO ?_ | refine st_storeG _ rJ rK rE rN rJ rO (fun cs hcs => ?_)) | refine st_slice0 rJ rJ rJ rJ (fun g => ?_) | refine st_slice1T rJ rJ rJ rJ (fun g => ?_) | refine st_makeT rJ rJ rJ rJ rE rJ rO rO (fun v o => ?_) | (apply exlCopy; first | refine st_copyW _ rJ rE rK rE rD rJ rE rJ (fun zs hzs => ?_) | refine st_copyS _ rJ rJ rK rE rD rJ rE rJ rO rO (fun zs hzs => ?_)) | refine st_sliceB rJ rJ rJ rJ rJ rJ rJ rL rE rE rJ (fun g => ?_) | refine st_slice1I rJ rJ rJ rJ rJ rJ (fun g => ?_) | refine st_slice1B rJ rJ rJ rJ rJ rJ rO rO (fun g => ?_) | refine st_slice1S rJ rJ rJ rJ rJ rJ (fun g => ?_) | refine st_slice2B rJ rJ rJ rJ rJ rJ rJ rO rO rO rO (fun g => ?_) | (apply exlConv; first | refine st_bytes rJ rJ rJ rJ rJ rO (fun v o => ?_) | refine st_mark _ rJ rJ rK rJ rJ rJ ?_) | refine st_clear _ (0 : UInt8) rJ rK rJ rJ rJ rJ rJ rO ?_ | refine st_clearT _ rJ rK rO rJ rJ rO rE ?_ | (apply exlAppend; first | refine st_app0 rJ rJ rE rD rJ rE rJ rE rJ rJ rJ rO (fun v o => ?_) | refine st_app _ rJ rE rK rE rD rJ rE rJ rE rJ rJ rJ rO (fun v o => ?_) | refine st_shift _ rJ rJ rJ rK rO rJ rJ rJ rO rO rE ?_)) | (refine Ex.cond_d rJ (fun h => ?_) (fun h => ?_) <;> try (exfalso; omega))))
  refine Ex.loopS [5, 6] (fun m vs => ∃ k : Nat, k ≤ key.length ∧ m = key.length - k ∧ vs = [.int .i64 (sumB (key.take k)), .int .i64 k]) key.length ?_ ?_
  · exact ⟨0, by omega, by omega, rfl⟩
  rintro m vs g1 ⟨k, hk, rfl, rfl⟩
  have hb := sumB_bd (key.take k)
  simp only [List.length_take] at hb
  by_cases hlt : k < key.length
  · have := key[k].toNat_lt
    (repeat' (first | refine ExL.val rJ rJ rJ rV ?_ | (first | refine Ex.seq ?_ | refine Ex.region ?_ | refine ExL.nil ?_ | refine thn_n ?_ | refine Ex.cond_t rJ ?_ | refine Ex.cond_f rJ ?_ | refine Ex.skip ?_ | refine Ex.block ?_ | refine Ex.exit ?_ | refine Ex.ret ?_ | refine thn_exit ?_ | refine thn_ret ?_ | refine inb_n ?_ | refine inb_hit rJ ?_ | refine inb_miss rJ ?_ | refine inb_ret ?_ | refine rnd_exit ?_ | refine rnd_ret ?_ | refine meet_ret ?_ | refine meet_exit ?_) | (apply exlGuard; first | refine ExL.gskip rJ rJ rJ rJ rJ rJ ?_ | refine ExL.gtake rJ rJ rJ rJ ?_ | refine ExL.gskipU rJ rJ rJ rJ ?_ | (refine ExL.gsplit rJ rJ rJ (fun h => ?_) (fun h => ?_) <;> try (exfalso; omega))) | (first | refine st_new_ rJ rE (fun g => ?_) | refine st_boxA rJ rJ (fun g => ?_) | refine st_box1 rJ rE rN (fun g => ?_) | (apply exlStore; first | refine st_store1_ _ rJ rK rE rN rJ rJ rE rE ?_ | refine st_storeW_ _ rJ rK rJ rC rJ rJ rJ rE ?_ | refine st_storeR _ rJ rK rJ rE rJ rJ rE ?_ | refine st_storeA_ _ rJ rK rJ rC rJ rJ rJ rE rE ?_ | refine st_storeB _ rJ rJ rO rO rK rJ rO ?_ | refine st_storeG _ rJ rK rE rN rJ rO (fun cs hcs => ?_)) | refine st_slice0 rJ rJ rJ rJ (fun g => ?_) | refine st_slice1T rJ rJ rJ rJ (fun g => ?_) | refine st_makeT rJ rJ rJ rJ rE rJ rO rO (fun v o => ?_) | (apply exlCopy; first | refine st_copyW _ rJ rE rK rE rD rJ rE rJ (fun zs hzs => ?_) | refine st_copyS _ rJ rJ rK rE rD rJ rE rJ rO rO (fun zs hzs => ?_)) | refine st_sliceB rJ rJ rJ rJ rJ rJ rJ rL rE rE rJ (fun g => ?_) | refine st_slice1I rJ rJ rJ rJ rJ rJ (fun g => ?_) | refine st_slice1B rJ rJ rJ rJ rJ rJ rO rO (fun g => ?_) | refine st_slice1S rJ rJ rJ rJ rJ rJ (fun g => ?_) | refine st_slice2B rJ rJ rJ rJ rJ rJ rJ rO rO rO rO (fun g => ?_) | (apply exlConv; first | refine st_bytes rJ rJ rJ rJ rJ rO (fun v o => ?_) | refine st_mark _ rJ rJ rK rJ rJ rJ ?_) | refine st_clear _ (0 : UInt8) rJ rK rJ rJ rJ rJ rJ rO ?_ | refine st_clearT _ rJ rK rO rJ rJ rO rE ?_ | (apply exlAppend; first | refine st_app0 rJ rJ rE rD rJ rE rJ rE rJ rJ rJ rO (fun v o => ?_) | refine st_app _ rJ rE rK rE rD rJ rE rJ rE rJ rJ rJ rO (fun v o => ?_) | refine st_shift _ rJ rJ rJ rK rO rJ rJ rJ rO rO rE ?_)) | (refine Ex.cond_d rJ (fun h => ?_) (fun h => ?_) <;> try (exfalso; omega))))
    exact rnd_n ⟨key.length - (k + 1), _, by omega, Sub.refl _, ⟨k + 1, by omega, rfl, lcons (vint (sumB_succ key k hlt).symm) (lcons (vint (by omega)) rfl)⟩, rfl⟩
  (repeat' (first | refine ExL.val rJ rJ rJ rV ?_ | (first | refine Ex.seq ?_ | refine Ex.region ?_ | refine ExL.nil ?_ | refine thn_n ?_ | refine Ex.cond_t rJ ?_ | refine Ex.cond_f rJ ?_ | refine Ex.skip ?_ | refine Ex.block ?_ | refine Ex.exit ?_ | refine Ex.ret ?_ | refine thn_exit ?_ | refine thn_ret ?_ | refine inb_n ?_ | refine inb_hit rJ ?_ | refine inb_miss rJ ?_ | refine inb_ret ?_ | refine rnd_exit ?_ | refine rnd_ret ?_ | refine meet_ret ?_ | refine meet_exit ?_) | (apply exlGuard; first | refine ExL.gskip rJ rJ rJ rJ rJ rJ ?_ | refine ExL.gtake rJ rJ rJ rJ ?_ | refine ExL.gskipU rJ rJ rJ rJ ?_ | (refine ExL.gsplit rJ rJ rJ (fun h => ?_) (fun h => ?_) <;> try (exfalso; omega))) | (first | refine st_new_ rJ rE (fun g => ?_) | refine st_boxA rJ rJ (fun g => ?_) | refine st_box1 rJ rE rN (fun g => ?_) | (apply exlStore; first | refine st_store1_ _ rJ rK rE rN rJ rJ rE rE ?_ | refine st_storeW_ _ rJ rK rJ rC rJ rJ rJ rE ?_ | refine st_storeR _ rJ rK rJ rE rJ rJ rE ?_ | refine st_storeA_ _ rJ rK rJ rC rJ rJ rJ rE rE ?_ | refine st_storeB _ rJ rJ rO rO rK rJ rO ?_ | refine st_storeG _ rJ rK rE rN rJ rO (fun cs hcs => ?_)) | refine st_slice0 rJ rJ rJ rJ (fun g => ?_) | refine st_slice1T rJ rJ rJ rJ (fun g => ?_) | refine st_makeT rJ rJ rJ rJ rE rJ rO rO (fun v o => ?_) | (apply exlCopy; first | refine st_copyW _ rJ rE rK rE rD rJ rE rJ (fun zs hzs => ?_) | refine st_copyS _ rJ rJ rK rE rD rJ rE rJ rO rO (fun zs hzs => ?_)) | refine st_sliceB rJ rJ rJ rJ rJ rJ rJ rL rE rE rJ (fun g => ?_) | refine st_slice1I rJ rJ rJ rJ rJ rJ (fun g => ?_) | refine st_slice1B rJ rJ rJ rJ rJ rJ rO rO (fun g => ?_) | refine st_slice1S rJ rJ rJ rJ rJ rJ (fun g => ?_) | refine st_slice2B rJ rJ rJ rJ rJ rJ rJ rO rO rO rO (fun g => ?_) | (apply exlConv; first | refine st_bytes rJ rJ rJ rJ rJ rO (fun v o => ?_) | refine st_mark _ rJ rJ rK rJ rJ rJ ?_) | refine st_clear _ (0 : UInt8) rJ rK rJ rJ rJ rJ rJ rO ?_ | refine st_clearT _ rJ rK rO rJ rJ rO rE ?_ | (apply exlAppend; first | refine st_app0 rJ rJ rE rD rJ rE rJ rE rJ rJ rJ rO (fun v o => ?_) | refine st_app _ rJ rE rK rE rD rJ rE rJ rE rJ rJ rJ rO (fun v o => ?_) | refine st_shift _ rJ rJ rJ rK rO rJ rJ rJ rO rO rE ?_)) | (refine Ex.cond_d rJ (fun h => ?_) (fun h => ?_) <;> try (exfalso; omega))))
  obtain rfl : k = key.length := by omega
  rw [List.take_length] at *
  refine Ex.loopS [7, 8] (fun m vs => ∃ k : Nat, k ≤ value.length ∧ m = value.length - k ∧ vs = [.int .i64 (sumB (value.take k)), .int .i64 k]) value.length ?_ ?_
  · exact ⟨0, by omega, by omega, rfl⟩
  rintro m vs g1 ⟨k, hk, rfl, rfl⟩
  have hb2 := sumB_bd (value.take k)
  simp only [List.length_take] at hb2
  by_cases hlt : k < value.length
  · have := value[k].toNat_lt
    (repeat' (first | refine ExL.val rJ rJ rJ rV ?_ | (first | refine Ex.seq ?_ | refine Ex.region ?_ | refine ExL.nil ?_ | refine thn_n ?_ | refine Ex.cond_t rJ ?_ | refine Ex.cond_f rJ ?_ | refine Ex.skip ?_ | refine Ex.block ?_ | refine Ex.exit ?_ | refine Ex.ret ?_ | refine thn_exit ?_ | refine thn_ret ?_ | refine inb_n ?_ | refine inb_hit rJ ?_ | refine inb_miss rJ ?_ | refine inb_ret ?_ | refine rnd_exit ?_ | refine rnd_ret ?_ | refine meet_ret ?_ | refine meet_exit ?_) | (apply exlGuard; first | refine ExL.gskip rJ rJ rJ rJ rJ rJ ?_ | refine ExL.gtake rJ rJ rJ rJ ?_ | refine ExL.gskipU rJ rJ rJ rJ ?_ | (refine ExL.gsplit rJ rJ rJ (fun h => ?_) (fun h => ?_) <;> try (exfalso; omega))) | (first | refine st_new_ rJ rE (fun g => ?_) | refine st_boxA rJ rJ (fun g => ?_) | refine st_box1 rJ rE rN (fun g => ?_) | (apply exlStore; first | refine st_store1_ _ rJ rK rE rN rJ rJ rE rE ?_ | refine st_storeW_ _ rJ rK rJ rC rJ rJ rJ rE ?_ | refine st_storeR _ rJ rK rJ rE rJ rJ rE ?_ | refine st_storeA_ _ rJ rK rJ rC rJ rJ rJ rE rE ?_ | refine st_storeB _ rJ rJ rO rO rK rJ rO ?_ | refine st_storeG _ rJ rK rE rN rJ rO (fun cs hcs => ?_)) | refine st_slice0 rJ rJ rJ rJ (fun g => ?_) | refine st_slice1T rJ rJ rJ rJ (fun g => ?_) | refine st_makeT rJ rJ rJ rJ rE rJ rO rO (fun v o => ?_) | (apply exlCopy; first | refine st_copyW _ rJ rE rK rE rD rJ rE rJ (fun zs hzs => ?_) | refine st_copyS _ rJ rJ rK rE rD rJ rE rJ rO rO (fun zs hzs => ?_)) | refine st_sliceB rJ rJ rJ rJ rJ rJ rJ rL rE rE rJ (fun g => ?_) | refine st_slice1I rJ rJ rJ rJ rJ rJ (fun g => ?_) | refine st_slice1B rJ rJ rJ rJ rJ rJ rO rO (fun g => ?_) | refine st_slice1S rJ rJ rJ rJ rJ rJ (fun g => ?_) | refine st_slice2B rJ rJ rJ rJ rJ rJ rJ rO rO rO rO (fun g => ?_) | (apply exlConv; first | refine st_bytes rJ rJ rJ rJ rJ rO (fun v o => ?_) | refine st_mark _ rJ rJ rK rJ rJ rJ ?_) | refine st_clear _ (0 : UInt8) rJ rK rJ rJ rJ rJ rJ rO ?_ | refine st_clearT _ rJ rK rO rJ rJ rO rE ?_ | (apply exlAppend; first | refine st_app0 rJ rJ rE rD rJ rE rJ rE rJ rJ rJ rO (fun v o => ?_) | refine st_app _ rJ rE rK rE rD rJ rE rJ rE rJ rJ rJ rO (fun v o => ?_) | refine st_shift _ rJ rJ rJ rK rO rJ rJ rJ rO rO rE ?_)) | (refine Ex.cond_d rJ (fun h => ?_) (fun h => ?_) <;> try (exfalso; omega))))
    exact rnd_n ⟨value.length - (k + 1), _, by omega, Sub.refl _, ⟨k + 1, by omega, rfl, lcons (vint (sumB_succ value k hlt).symm) (lcons (vint (by omega)) rfl)⟩, rfl⟩
  (repeat' (first | refine ExL.val rJ rJ rJ rV ?_ | (first | refine Ex.seq ?_ | refine Ex.region ?_ | refine ExL.nil ?_ | refine thn_n ?_ | refine Ex.cond_t rJ ?_ | refine Ex.cond_f rJ ?_ | refine Ex.skip ?_ | refine Ex.block ?_ | refine Ex.exit ?_ | refine Ex.ret ?_ | refine thn_exit ?_ | refine thn_ret ?_ | refine inb_n ?_ | refine inb_hit rJ ?_ | refine inb_miss rJ ?_ | refine inb_ret ?_ | refine rnd_exit ?_ | refine rnd_ret ?_ | refine meet_ret ?_ | refine meet_exit ?_) | (apply exlGuard; first | refine ExL.gskip rJ rJ rJ rJ rJ rJ ?_ | refine ExL.gtake rJ rJ rJ rJ ?_ | refine ExL.gskipU rJ rJ rJ rJ ?_ | (refine ExL.gsplit rJ rJ rJ (fun h => ?_) (fun h => ?_) <;> try (exfalso; omega))) | (first | refine st_new_ rJ rE (fun g => ?_) | refine st_boxA rJ rJ (fun g => ?_) | refine st_box1 rJ rE rN (fun g => ?_) | (apply exlStore; first | refine st_store1_ _ rJ rK rE rN rJ rJ rE rE ?_ | refine st_storeW_ _ rJ rK rJ rC rJ rJ rJ rE ?_ | refine st_storeR _ rJ rK rJ rE rJ rJ rE ?_ | refine st_storeA_ _ rJ rK rJ rC rJ rJ rJ rE rE ?_ | refine st_storeB _ rJ rJ rO rO rK rJ rO ?_ | refine st_storeG _ rJ rK rE rN rJ rO (fun cs hcs => ?_)) | refine st_slice0 rJ rJ rJ rJ (fun g => ?_) | refine st_slice1T rJ rJ rJ rJ (fun g => ?_) | refine st_makeT rJ rJ rJ rJ rE rJ rO rO (fun v o => ?_) | (apply exlCopy; first | refine st_copyW _ rJ rE rK rE rD rJ rE rJ (fun zs hzs => ?_) | refine st_copyS _ rJ rJ rK rE rD rJ rE rJ rO rO (fun zs hzs => ?_)) | refine st_sliceB rJ rJ rJ rJ rJ rJ rJ rL rE rE rJ (fun g => ?_) | refine st_slice1I rJ rJ rJ rJ rJ rJ (fun g => ?_) | refine st_slice1B rJ rJ rJ rJ rJ rJ rO rO (fun g => ?_) | refine st_slice1S rJ rJ rJ rJ rJ rJ (fun g => ?_) | refine st_slice2B rJ rJ rJ rJ rJ rJ rJ rO rO rO rO (fun g => ?_) | (apply exlConv; first | refine st_bytes rJ rJ rJ rJ rJ rO (fun v o => ?_) | refine st_mark _ rJ rJ rK rJ rJ rJ ?_) | refine st_clear _ (0 : UInt8) rJ rK rJ rJ rJ rJ rJ rO ?_ | refine st_clearT _ rJ rK rO rJ rJ rO rE ?_ | (apply exlAppend; first | refine st_app0 rJ rJ rE rD rJ rE rJ rE rJ rJ rJ rO (fun v o => ?_) | refine st_app _ rJ rE rK rE rD rJ rE rJ rE rJ rJ rJ rO (fun v o => ?_) | refine st_shift _ rJ rJ rJ rK rO rJ rJ rJ rO rO rE ?_)) | (refine Ex.cond_d rJ (fun h => ?_) (fun h => ?_) <;> try (exfalso; omega))))
  obtain rfl : k = value.length := by omega
  rw [List.take_length] at *
  have hm3 : sumB key % 3 = 0 ∨ sumB key % 3 = 1 ∨ sumB key % 3 = 2 := by omega
  have hm4 : sumB value % 4 = 0 ∨ sumB value % 4 = 1 ∨ sumB value % 4 = 2 ∨ sumB value % 4 = 3 := by omega
  have hk2 : 2 < 1 + (kind.tmod 5 + 5) % 5 ∨ ¬ 2 < 1 + (kind.tmod 5 + 5) % 5 := by omega
  rcases hm3 with hm3 | hm3 | hm3
  all_goals
    (refine Ex.mixA 12 _ rfl (by kernel_rfl) (Fac.refl _) ?_; (repeat' (first | refine mx_val rJ rJ rJ rV ?_ | refine mx_nil ?_ | (first | refine mx_gskip rJ rJ rJ rJ ?_ | refine mx_gtake rJ rJ rJ ?_ | refine mx_gskipU rJ rJ rJ ?_) | (first | refine mx_slice1T rJ rJ rJ rJ (fun g => ?_) | refine mx_slice1I rJ rJ rJ rJ rJ rJ (fun g => ?_) | refine mx_slice1B rJ rJ rJ rJ rJ rJ rO rO (fun g => ?_) | refine mx_slice1S rJ rJ rJ rJ rJ rJ (fun g => ?_) | refine mx_slice2B rJ rJ rJ rJ rJ rJ rJ rO rO rO rO (fun g => ?_) | refine mx_alloc rJ rE (fun g => ?_) | refine mx_boxA rJ rJ (fun g => ?_) | refine mx_slice0 rJ rJ rJ rJ (fun g => ?_)) | (refine mx_gsplit rJ rJ rJ (fun h => ?_) (fun h => ?_) <;> try (exfalso; omega)) | (refine mx_act rJ rJ rJ ?_; (first | (apply exlCopy; first | refine st_copyW _ rJ rE rK rE rD rJ rE rJ (fun zs hzs => ?_) | refine st_copyS _ rJ rJ rK rE rD rJ rE rJ rO rO (fun zs hzs => ?_)) | (apply exlAppend; first | refine st_app0 rJ rJ rE rD rJ rE rJ rE rJ rJ rJ rO (fun v o => ?_) | refine st_app _ rJ rE rK rE rD rJ rE rJ rE rJ rJ rJ rO (fun v o => ?_) | refine st_shift _ rJ rJ rJ rK rO rJ rJ rJ rO rO rE ?_)); refine ExL.nil ?_; refine mxEnd_n rF ?_))))
    (repeat' (first | refine ExL.val rJ rJ rJ rV ?_ | (first | refine Ex.seq ?_ | refine Ex.region ?_ | refine ExL.nil ?_ | refine thn_n ?_ | refine Ex.cond_t rJ ?_ | refine Ex.cond_f rJ ?_ | refine Ex.skip ?_ | refine Ex.block ?_ | refine Ex.exit ?_ | refine Ex.ret ?_ | refine thn_exit ?_ | refine thn_ret ?_ | refine inb_n ?_ | refine inb_hit rJ ?_ | refine inb_miss rJ ?_ | refine inb_ret ?_ | refine rnd_exit ?_ | refine rnd_ret ?_ | refine meet_ret ?_ | refine meet_exit ?_) | (apply exlGuard; first | refine ExL.gskip rJ rJ rJ rJ rJ rJ ?_ | refine ExL.gtake rJ rJ rJ rJ ?_ | refine ExL.gskipU rJ rJ rJ rJ ?_ | (refine ExL.gsplit rJ rJ rJ (fun h => ?_) (fun h => ?_) <;> try (exfalso; omega))) | (first | refine st_new_ rJ rE (fun g => ?_) | refine st_boxA rJ rJ (fun g => ?_) | refine st_box1 rJ rE rN (fun g => ?_) | (apply exlStore; first | refine st_store1_ _ rJ rK rE rN rJ rJ rE rE ?_ | refine st_storeW_ _ rJ rK rJ rC rJ rJ rJ rE ?_ | refine st_storeR _ rJ rK rJ rE rJ rJ rE ?_ | refine st_storeA_ _ rJ rK rJ rC rJ rJ rJ rE rE ?_ | refine st_storeB _ rJ rJ rO rO rK rJ rO ?_ | refine st_storeG _ rJ rK rE rN rJ rO (fun cs hcs => ?_)) | refine st_slice0 rJ rJ rJ rJ (fun g => ?_) | refine st_slice1T rJ rJ rJ rJ (fun g => ?_) | refine st_makeT rJ rJ rJ rJ rE rJ rO rO (fun v o => ?_) | (apply exlCopy; first | refine st_copyW _ rJ rE rK rE rD rJ rE rJ (fun zs hzs => ?_) | refine st_copyS _ rJ rJ rK rE rD rJ rE rJ rO rO (fun zs hzs => ?_)) | refine st_sliceB rJ rJ rJ rJ rJ rJ rJ rL rE rE rJ (fun g => ?_) | refine st_slice1I rJ rJ rJ rJ rJ rJ (fun g => ?_) | refine st_slice1B rJ rJ rJ rJ rJ rJ rO rO (fun g => ?_) | refine st_slice1S rJ rJ rJ rJ rJ rJ (fun g => ?_) | refine st_slice2B rJ rJ rJ rJ rJ rJ rJ rO rO rO rO (fun g => ?_) | (apply exlConv; first | refine st_bytes rJ rJ rJ rJ rJ rO (fun v o => ?_) | refine st_mark _ rJ rJ rK rJ rJ rJ ?_) | refine st_clear _ (0 : UInt8) rJ rK rJ rJ rJ rJ rJ rO ?_ | refine st_clearT _ rJ rK rO rJ rJ rO rE ?_ | (apply exlAppend; first | refine st_app0 rJ rJ rE rD rJ rE rJ rE rJ rJ rJ rO (fun v o => ?_) | refine st_app _ rJ rE rK rE rD rJ rE rJ rE rJ rJ rJ rO (fun v o => ?_) | refine st_shift _ rJ rJ rJ rK rO rJ rJ rJ rO rO rE ?_)) | (refine Ex.cond_d rJ (fun h => ?_) (fun h => ?_) <;> try (exfalso; omega))))
  all_goals by_cases hq : 2 < 1 + (kind.tmod 5 + 5) % 5
  all_goals first | (exfalso; omega) | skip
  all_goals first | ((first | refine fin_ret rS ?_ | refine fin_norm rS ?_); exact ⟨_, rB, by simp only [Ed.fit, Ed.val, Ed.cells, hm3, if_neg hq]; rfl, rfl⟩) | skip
  all_goals
    rcases hm4 with hm4 | hm4 | hm4 | hm4 <;> rw [hm4]
    all_goals
      (repeat' (first | refine ExL.val rJ rJ rJ rV ?_ | (first | refine Ex.seq ?_ | refine Ex.region ?_ | refine ExL.nil ?_ | refine thn_n ?_ | refine Ex.cond_t rJ ?_ | refine Ex.cond_f rJ ?_ | refine Ex.skip ?_ | refine Ex.block ?_ | refine Ex.exit ?_ | refine Ex.ret ?_ | refine thn_exit ?_ | refine thn_ret ?_ | refine inb_n ?_ | refine inb_hit rJ ?_ | refine inb_miss rJ ?_ | refine inb_ret ?_ | refine rnd_exit ?_ | refine rnd_ret ?_ | refine meet_ret ?_ | refine meet_exit ?_) | (apply exlGuard; first | refine ExL.gskip rJ rJ rJ rJ rJ rJ ?_ | refine ExL.gtake rJ rJ rJ rJ ?_ | refine ExL.gskipU rJ rJ rJ rJ ?_ | (refine ExL.gsplit rJ rJ rJ (fun h => ?_) (fun h => ?_) <;> try (exfalso; omega))) | (first | refine st_new_ rJ rE (fun g => ?_) | refine st_boxA rJ rJ (fun g => ?_) | refine st_box1 rJ rE rN (fun g => ?_) | (apply exlStore; first | refine st_store1_ _ rJ rK rE rN rJ rJ rE rE ?_ | refine st_storeW_ _ rJ rK rJ rC rJ rJ rJ rE ?_ | refine st_storeR _ rJ rK rJ rE rJ rJ rE ?_ | refine st_storeA_ _ rJ rK rJ rC rJ rJ rJ rE rE ?_ | refine st_storeB _ rJ rJ rO rO rK rJ rO ?_ | refine st_storeG _ rJ rK rE rN rJ rO (fun cs hcs => ?_)) | refine st_slice0 rJ rJ rJ rJ (fun g => ?_) | refine st_slice1T rJ rJ rJ rJ (fun g => ?_) | refine st_makeT rJ rJ rJ rJ rE rJ rO rO (fun v o => ?_) | (apply exlCopy; first | refine st_copyW _ rJ rE rK rE rD rJ rE rJ (fun zs hzs => ?_) | refine st_copyS _ rJ rJ rK rE rD rJ rE rJ rO rO (fun zs hzs => ?_)) | refine st_sliceB rJ rJ rJ rJ rJ rJ rJ rL rE rE rJ (fun g => ?_) | refine st_slice1I rJ rJ rJ rJ rJ rJ (fun g => ?_) | refine st_slice1B rJ rJ rJ rJ rJ rJ rO rO (fun g => ?_) | refine st_slice1S rJ rJ rJ rJ rJ rJ (fun g => ?_) | refine st_slice2B rJ rJ rJ rJ rJ rJ rJ rO rO rO rO (fun g => ?_) | (apply exlConv; first | refine st_bytes rJ rJ rJ rJ rJ rO (fun v o => ?_) | refine st_mark _ rJ rJ rK rJ rJ rJ ?_) | refine st_clear _ (0 : UInt8) rJ rK rJ rJ rJ rJ rJ rO ?_ | refine st_clearT _ rJ rK rO rJ rJ rO rE ?_ | (apply exlAppend; first | refine st_app0 rJ rJ rE rD rJ rE rJ rE rJ rJ rJ rO (fun v o => ?_) | refine st_app _ rJ rE rK rE rD rJ rE rJ rE rJ rJ rJ rO (fun v o => ?_) | refine st_shift _ rJ rJ rJ rK rO rJ rJ rJ rO rO rE ?_)) | (refine Ex.cond_d rJ (fun h => ?_) (fun h => ?_) <;> try (exfalso; omega))))
      skip
      (first | refine fin_ret rS ?_ | refine fin_norm rS ?_)
      exact ⟨_, rB, by simp only [Ed.fit, Ed.val, Ed.cells, hm3, hm4, if_pos hq, ExtLaws.i64_and1]; rfl, rfl⟩
end Go.Proofs.Ytmjpdibjdgjhgaa
/- An edit that may be, made, may be. No condition. -/
namespace Go.Proofs.Ytmjpdibjdgjhgaa
open Go.RowKit
set_option linter.unusedSimpArgs false
set_option linter.unusedVariables false
theorem fit_key (e : Ed) : e.fit.key = [97, 110, 110] ∨ e.fit.key = [98, 111, 98] ∨ e.fit.key = [99, 121] := by
  show fitKey _ = _ ∨ fitKey _ = _ ∨ fitKey _ = _
  unfold fitKey
  split
  · simp
  · split <;> simp
theorem fit_value (e : Ed) : e.fit.value = [] ∨ e.fit.value = [49] ∨ e.fit.value = [116, 119, 111] ∨ e.fit.value = [0, 255] ∨ e.fit.value = [116, 119, 101, 108, 118, 101, 32, 98, 121, 116, 101, 115] := by
  simp only [Ed.fit]
  split
  · unfold fitValue
    split
    · simp
    · split
      · simp
      · split <;> simp
  · simp
theorem fit_err (e : Ed) : e.fit.err = 0 := by
  have hk := fit_key e
  have hke : keyE e.fit.key = 0 := by rcases hk with h | h | h <;> rw [h] <;> decide
  have h1 := tmod5 e.kind
  have h2 : 0 ≤ (e.kind.tmod 5 + 5) % 5 ∧ (e.kind.tmod 5 + 5) % 5 < 5 := by omega
  have hkd : e.fit.kind = 1 + (e.kind.tmod 5 + 5) % 5 := rfl
  unfold Ed.err
  rw [if_neg (by omega), hke, if_neg (by omega)]
  by_cases h3 : 2 < 1 + (e.kind.tmod 5 + 5) % 5
  · rw [if_neg (by omega)]
    have hl : e.fit.label = e.label % 2 := by simp only [Ed.fit]; rw [if_pos h3]
    have hv : e.fit.value = fitValue (sumB e.value % 4) := by simp only [Ed.fit]; rw [if_pos h3]
    have hle : labelE e.fit.label = 0 := by rw [hl]; unfold labelE; rw [if_pos (by omega)]
    rw [hle, if_neg (by omega), hv]
    unfold fitValue
    split
    · decide
    · split
      · decide
      · split <;> decide
  · rw [if_pos (by omega)]
    have hl : e.fit.label = 0 := by simp only [Ed.fit]; rw [if_neg h3]
    have hv : e.fit.value = [] := by simp only [Ed.fit]; rw [if_neg h3]
    rw [hl, if_neg (by omega), hv, if_neg (by simp)]
end Go.Proofs.Ytmjpdibjdgjhgaa
