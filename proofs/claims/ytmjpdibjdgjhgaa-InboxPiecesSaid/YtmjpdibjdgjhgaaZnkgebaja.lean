/- Several texts, one behind the other; each says in its head what it proves. No condition. -/
import Derived.Test.YtmjpdibjdgjhgaaZgpbghoib
import Derived.Test.YtmjpdibjdgjhgaaZfhkbfllp
import Derived.Test.YtmjpdibjdgjhgaaZfnbkdcio
import Derived.Test.YtmjpdibjdgjhgaaZelpbgfkl
/- Package inbox, walked: Take, Own. No condition. -/
namespace Go.Proofs.Ytmjpdibjdgjhgaa
open Go.RowKit
set_option linter.unusedSimpArgs false
set_option linter.unusedVariables false
set_option maxRecDepth 20000 attribute [local irreducible] Ex ExL Fn thn inb rnd fin meet Tab Mix mxEnd Val Sats RdT Rd RowT Row Blk Sub Fac ResV RVal Evs subs subs3 Hid Capd
set_option maxHeartbeats 4000000 in
theorem concat2 (u v1 v2 : Value) (o1 : v1.oneCell' = true) (o2 : v2.oneCell' = true) (l1 l2 : List Ev) (M : List Assn) (hu : RdT M u [(⟨v1, o1⟩ : Sv), ⟨v2, o2⟩]) (h1 : RdT M v1 l1) (h2 : RdT M v2 l2) (hb1 : l1.length ≤ 1000000) (hb2 : l2.length ≤ 1000000) :
    Fn Try.prog 48 #[u] M fun r L' => r.oneCell' = true ∧ L' = Evs_ r (l1 ++ l2) :: M := by
  refine Fn.of_ex Try.func48 rfl Try.ntmps48 rfl ?_
  (repeat' (first | refine ExL.val rJ rJ rJ rV ?_ | (first | refine Ex.seq ?_ | refine Ex.region ?_ | refine ExL.nil ?_ | refine thn_n ?_ | refine Ex.cond_t rJ ?_ | refine Ex.cond_f rJ ?_ | refine Ex.skip ?_ | refine Ex.block ?_ | refine Ex.exit ?_ | refine Ex.ret ?_ | refine thn_exit ?_ | refine thn_ret ?_ | refine inb_n ?_ | refine inb_hit rJ ?_ | refine inb_miss rJ ?_ | refine inb_ret ?_ | refine rnd_exit ?_ | refine rnd_ret ?_ | refine meet_ret ?_ | refine meet_exit ?_) | (apply exlGuard; first | refine ExL.gskip rJ rJ rJ rJ rJ rJ ?_ | refine ExL.gtake rJ rJ rJ rJ ?_ | refine ExL.gskipU rJ rJ rJ rJ ?_ | (refine ExL.gsplit rJ rJ rJ (fun h => ?_) (fun h => ?_) <;> try (exfalso; omega))) | (first | refine st_new_ rJ rE (fun g => ?_) | refine st_boxA rJ rJ (fun g => ?_) | refine st_box1 rJ rE rN (fun g => ?_) | (apply exlStore; first | refine st_store1_ _ rJ rK rE rN rJ rJ rE rE ?_ | refine st_storeW_ _ rJ rK rJ rC rJ rJ rJ rE ?_ | refine st_storeR _ rJ rK rJ rE rJ rJ rE ?_ | refine st_storeA_ _ rJ rK rJ rC rJ rJ rJ rE rE ?_ | refine st_storeB _ rJ rJ rO rO rK rJ rO ?_ | refine st_storeG _ rJ rK rE rN rJ rO (fun cs hcs => ?_)) | refine st_slice0 rJ rJ rJ rJ (fun g => ?_) | refine st_slice1T rJ rJ rJ rJ (fun g => ?_) | refine st_makeT rJ rJ rJ rJ rE rJ rO rO (fun v o => ?_) | (apply exlCopy; first | refine st_copyW _ rJ rE rK rE rD rJ rE rJ (fun zs hzs => ?_) | refine st_copyS _ rJ rJ rK rE rD rJ rE rJ rO rO (fun zs hzs => ?_)) | refine st_sliceB rJ rJ rJ rJ rJ rJ rJ rL rE rE rJ (fun g => ?_) | refine st_slice1I rJ rJ rJ rJ rJ rJ (fun g => ?_) | refine st_slice1B rJ rJ rJ rJ rJ rJ rO rO (fun g => ?_) | refine st_slice1S rJ rJ rJ rJ rJ rJ (fun g => ?_) | refine st_slice2B rJ rJ rJ rJ rJ rJ rJ rO rO rO rO (fun g => ?_) | (apply exlConv; first | refine st_bytes rJ rJ rJ rJ rJ rO (fun v o => ?_) | refine st_mark _ rJ rJ rK rJ rJ rJ ?_) | refine st_clear _ (0 : UInt8) rJ rK rJ rJ rJ rJ rJ rO ?_ | refine st_clearT _ rJ rK rO rJ rJ rO rE ?_ | (apply exlAppend; first | refine st_app0 rJ rJ rE rD rJ rE rJ rE rJ rJ rJ rO (fun v o => ?_) | refine st_app _ rJ rE rK rE rD rJ rE rJ rE rJ rJ rJ rO (fun v o => ?_) | refine st_shift _ rJ rJ rJ rK rO rJ rJ rJ rO rO rE ?_)) | (refine Ex.cond_d rJ (fun h => ?_) (fun h => ?_) <;> try (exfalso; omega))))
  refine Ex.loopS [3, 11] (fun m vs => (m = 2 ∧ vs = [.int .i64 0, .int .i64 0]) ∨ (m = 1 ∧ vs = [.int .i64 l1.length, .int .i64 1]) ∨ (m = 0 ∧ vs = [.int .i64 (l1.length + l2.length), .int .i64 2])) 2 (.inl ⟨rfl, rfl⟩) ?_
  rintro m vs g1 (⟨rfl, rfl⟩ | ⟨rfl, rfl⟩ | ⟨rfl, rfl⟩)
  · refine Ex.keep [0, 3, 9, 10, 11] rG (fun gk => ?_)
    (repeat' (first | refine ExL.val rJ rJ rJ rV ?_ | (first | refine Ex.seq ?_ | refine Ex.region ?_ | refine ExL.nil ?_ | refine thn_n ?_ | refine Ex.cond_t rJ ?_ | refine Ex.cond_f rJ ?_ | refine Ex.skip ?_ | refine Ex.block ?_ | refine Ex.exit ?_ | refine Ex.ret ?_ | refine thn_exit ?_ | refine thn_ret ?_ | refine inb_n ?_ | refine inb_hit rJ ?_ | refine inb_miss rJ ?_ | refine inb_ret ?_ | refine rnd_exit ?_ | refine rnd_ret ?_ | refine meet_ret ?_ | refine meet_exit ?_) | (apply exlGuard; first | refine ExL.gskip rJ rJ rJ rJ rJ rJ ?_ | refine ExL.gtake rJ rJ rJ rJ ?_ | refine ExL.gskipU rJ rJ rJ rJ ?_ | (refine ExL.gsplit rJ rJ rJ (fun h => ?_) (fun h => ?_) <;> try (exfalso; omega))) | (first | refine st_new_ rJ rE (fun g => ?_) | refine st_boxA rJ rJ (fun g => ?_) | refine st_box1 rJ rE rN (fun g => ?_) | (apply exlStore; first | refine st_store1_ _ rJ rK rE rN rJ rJ rE rE ?_ | refine st_storeW_ _ rJ rK rJ rC rJ rJ rJ rE ?_ | refine st_storeR _ rJ rK rJ rE rJ rJ rE ?_ | refine st_storeA_ _ rJ rK rJ rC rJ rJ rJ rE rE ?_ | refine st_storeB _ rJ rJ rO rO rK rJ rO ?_ | refine st_storeG _ rJ rK rE rN rJ rO (fun cs hcs => ?_)) | refine st_slice0 rJ rJ rJ rJ (fun g => ?_) | refine st_slice1T rJ rJ rJ rJ (fun g => ?_) | refine st_makeT rJ rJ rJ rJ rE rJ rO rO (fun v o => ?_) | (apply exlCopy; first | refine st_copyW _ rJ rE rK rE rD rJ rE rJ (fun zs hzs => ?_) | refine st_copyS _ rJ rJ rK rE rD rJ rE rJ rO rO (fun zs hzs => ?_)) | refine st_sliceB rJ rJ rJ rJ rJ rJ rJ rL rE rE rJ (fun g => ?_) | refine st_slice1I rJ rJ rJ rJ rJ rJ (fun g => ?_) | refine st_slice1B rJ rJ rJ rJ rJ rJ rO rO (fun g => ?_) | refine st_slice1S rJ rJ rJ rJ rJ rJ (fun g => ?_) | refine st_slice2B rJ rJ rJ rJ rJ rJ rJ rO rO rO rO (fun g => ?_) | (apply exlConv; first | refine st_bytes rJ rJ rJ rJ rJ rO (fun v o => ?_) | refine st_mark _ rJ rJ rK rJ rJ rJ ?_) | refine st_clear _ (0 : UInt8) rJ rK rJ rJ rJ rJ rJ rO ?_ | refine st_clearT _ rJ rK rO rJ rJ rO rE ?_ | (apply exlAppend; first | refine st_app0 rJ rJ rE rD rJ rE rJ rE rJ rJ rJ rO (fun v o => ?_) | refine st_app _ rJ rE rK rE rD rJ rE rJ rE rJ rJ rJ rO (fun v o => ?_) | refine st_shift _ rJ rJ rJ rK rO rJ rJ rJ rO rO rE ?_)) | (refine Ex.cond_d rJ (fun h => ?_) (fun h => ?_) <;> try (exfalso; omega))))
    exact rnd_n ⟨1, _, by omega, Sub.refl _, .inr (.inl ⟨rfl, lcons (vint (by omega)) (lcons rfl rfl)⟩), rfl⟩
  · refine Ex.keep [0, 3, 9, 10, 11] rG (fun gk => ?_)
    (repeat' (first | refine ExL.val rJ rJ rJ rV ?_ | (first | refine Ex.seq ?_ | refine Ex.region ?_ | refine ExL.nil ?_ | refine thn_n ?_ | refine Ex.cond_t rJ ?_ | refine Ex.cond_f rJ ?_ | refine Ex.skip ?_ | refine Ex.block ?_ | refine Ex.exit ?_ | refine Ex.ret ?_ | refine thn_exit ?_ | refine thn_ret ?_ | refine inb_n ?_ | refine inb_hit rJ ?_ | refine inb_miss rJ ?_ | refine inb_ret ?_ | refine rnd_exit ?_ | refine rnd_ret ?_ | refine meet_ret ?_ | refine meet_exit ?_) | (apply exlGuard; first | refine ExL.gskip rJ rJ rJ rJ rJ rJ ?_ | refine ExL.gtake rJ rJ rJ rJ ?_ | refine ExL.gskipU rJ rJ rJ rJ ?_ | (refine ExL.gsplit rJ rJ rJ (fun h => ?_) (fun h => ?_) <;> try (exfalso; omega))) | (first | refine st_new_ rJ rE (fun g => ?_) | refine st_boxA rJ rJ (fun g => ?_) | refine st_box1 rJ rE rN (fun g => ?_) | (apply exlStore; first | refine st_store1_ _ rJ rK rE rN rJ rJ rE rE ?_ | refine st_storeW_ _ rJ rK rJ rC rJ rJ rJ rE ?_ | refine st_storeR _ rJ rK rJ rE rJ rJ rE ?_ | refine st_storeA_ _ rJ rK rJ rC rJ rJ rJ rE rE ?_ | refine st_storeB _ rJ rJ rO rO rK rJ rO ?_ | refine st_storeG _ rJ rK rE rN rJ rO (fun cs hcs => ?_)) | refine st_slice0 rJ rJ rJ rJ (fun g => ?_) | refine st_slice1T rJ rJ rJ rJ (fun g => ?_) | refine st_makeT rJ rJ rJ rJ rE rJ rO rO (fun v o => ?_) | (apply exlCopy; first | refine st_copyW _ rJ rE rK rE rD rJ rE rJ (fun zs hzs => ?_) | refine st_copyS _ rJ rJ rK rE rD rJ rE rJ rO rO (fun zs hzs => ?_)) | refine st_sliceB rJ rJ rJ rJ rJ rJ rJ rL rE rE rJ (fun g => ?_) | refine st_slice1I rJ rJ rJ rJ rJ rJ (fun g => ?_) | refine st_slice1B rJ rJ rJ rJ rJ rJ rO rO (fun g => ?_) | refine st_slice1S rJ rJ rJ rJ rJ rJ (fun g => ?_) | refine st_slice2B rJ rJ rJ rJ rJ rJ rJ rO rO rO rO (fun g => ?_) | (apply exlConv; first | refine st_bytes rJ rJ rJ rJ rJ rO (fun v o => ?_) | refine st_mark _ rJ rJ rK rJ rJ rJ ?_) | refine st_clear _ (0 : UInt8) rJ rK rJ rJ rJ rJ rJ rO ?_ | refine st_clearT _ rJ rK rO rJ rJ rO rE ?_ | (apply exlAppend; first | refine st_app0 rJ rJ rE rD rJ rE rJ rE rJ rJ rJ rO (fun v o => ?_) | refine st_app _ rJ rE rK rE rD rJ rE rJ rE rJ rJ rJ rO (fun v o => ?_) | refine st_shift _ rJ rJ rJ rK rO rJ rJ rJ rO rO rE ?_)) | (refine Ex.cond_d rJ (fun h => ?_) (fun h => ?_) <;> try (exfalso; omega))))
    exact rnd_n ⟨0, _, by omega, Sub.refl _, .inr (.inr ⟨rfl, lcons (vint (by omega)) (lcons rfl rfl)⟩), rfl⟩
  · refine Ex.keep [0, 3, 9, 10, 11] rG (fun gk => ?_)
    (repeat' (first | refine ExL.val rJ rJ rJ rV ?_ | (first | refine Ex.seq ?_ | refine Ex.region ?_ | refine ExL.nil ?_ | refine thn_n ?_ | refine Ex.cond_t rJ ?_ | refine Ex.cond_f rJ ?_ | refine Ex.skip ?_ | refine Ex.block ?_ | refine Ex.exit ?_ | refine Ex.ret ?_ | refine thn_exit ?_ | refine thn_ret ?_ | refine inb_n ?_ | refine inb_hit rJ ?_ | refine inb_miss rJ ?_ | refine inb_ret ?_ | refine rnd_exit ?_ | refine rnd_ret ?_ | refine meet_ret ?_ | refine meet_exit ?_) | (apply exlGuard; first | refine ExL.gskip rJ rJ rJ rJ rJ rJ ?_ | refine ExL.gtake rJ rJ rJ rJ ?_ | refine ExL.gskipU rJ rJ rJ rJ ?_ | (refine ExL.gsplit rJ rJ rJ (fun h => ?_) (fun h => ?_) <;> try (exfalso; omega))) | (first | refine st_new_ rJ rE (fun g => ?_) | refine st_boxA rJ rJ (fun g => ?_) | refine st_box1 rJ rE rN (fun g => ?_) | (apply exlStore; first | refine st_store1_ _ rJ rK rE rN rJ rJ rE rE ?_ | refine st_storeW_ _ rJ rK rJ rC rJ rJ rJ rE ?_ | refine st_storeR _ rJ rK rJ rE rJ rJ rE ?_ | refine st_storeA_ _ rJ rK rJ rC rJ rJ rJ rE rE ?_ | refine st_storeB _ rJ rJ rO rO rK rJ rO ?_ | refine st_storeG _ rJ rK rE rN rJ rO (fun cs hcs => ?_)) | refine st_slice0 rJ rJ rJ rJ (fun g => ?_) | refine st_slice1T rJ rJ rJ rJ (fun g => ?_) | refine st_makeT rJ rJ rJ rJ rE rJ rO rO (fun v o => ?_) | (apply exlCopy; first | refine st_copyW _ rJ rE rK rE rD rJ rE rJ (fun zs hzs => ?_) | refine st_copyS _ rJ rJ rK rE rD rJ rE rJ rO rO (fun zs hzs => ?_)) | refine st_sliceB rJ rJ rJ rJ rJ rJ rJ rL rE rE rJ (fun g => ?_) | refine st_slice1I rJ rJ rJ rJ rJ rJ (fun g => ?_) | refine st_slice1B rJ rJ rJ rJ rJ rJ rO rO (fun g => ?_) | refine st_slice1S rJ rJ rJ rJ rJ rJ (fun g => ?_) | refine st_slice2B rJ rJ rJ rJ rJ rJ rJ rO rO rO rO (fun g => ?_) | (apply exlConv; first | refine st_bytes rJ rJ rJ rJ rJ rO (fun v o => ?_) | refine st_mark _ rJ rJ rK rJ rJ rJ ?_) | refine st_clear _ (0 : UInt8) rJ rK rJ rJ rJ rJ rJ rO ?_ | refine st_clearT _ rJ rK rO rJ rJ rO rE ?_ | (apply exlAppend; first | refine st_app0 rJ rJ rE rD rJ rE rJ rE rJ rJ rJ rO (fun v o => ?_) | refine st_app _ rJ rE rK rE rD rJ rE rJ rE rJ rJ rJ rO (fun v o => ?_) | refine st_shift _ rJ rJ rJ rK rO rJ rJ rJ rO rO rE ?_)) | (refine Ex.cond_d rJ (fun h => ?_) (fun h => ?_) <;> try (exfalso; omega))))
    refine st_callIs [] rJ Try.call60 rJ rJ (grow_evs (l1.length + l2.length) _ (by omega)) ?_
    rintro v0 _ ⟨o0, rfl⟩
    (repeat' (first | refine ExL.val rJ rJ rJ rV ?_ | (first | refine Ex.seq ?_ | refine Ex.region ?_ | refine ExL.nil ?_ | refine thn_n ?_ | refine Ex.cond_t rJ ?_ | refine Ex.cond_f rJ ?_ | refine Ex.skip ?_ | refine Ex.block ?_ | refine Ex.exit ?_ | refine Ex.ret ?_ | refine thn_exit ?_ | refine thn_ret ?_ | refine inb_n ?_ | refine inb_hit rJ ?_ | refine inb_miss rJ ?_ | refine inb_ret ?_ | refine rnd_exit ?_ | refine rnd_ret ?_ | refine meet_ret ?_ | refine meet_exit ?_) | (apply exlGuard; first | refine ExL.gskip rJ rJ rJ rJ rJ rJ ?_ | refine ExL.gtake rJ rJ rJ rJ ?_ | refine ExL.gskipU rJ rJ rJ rJ ?_ | (refine ExL.gsplit rJ rJ rJ (fun h => ?_) (fun h => ?_) <;> try (exfalso; omega))) | (first | refine st_new_ rJ rE (fun g => ?_) | refine st_boxA rJ rJ (fun g => ?_) | refine st_box1 rJ rE rN (fun g => ?_) | (apply exlStore; first | refine st_store1_ _ rJ rK rE rN rJ rJ rE rE ?_ | refine st_storeW_ _ rJ rK rJ rC rJ rJ rJ rE ?_ | refine st_storeR _ rJ rK rJ rE rJ rJ rE ?_ | refine st_storeA_ _ rJ rK rJ rC rJ rJ rJ rE rE ?_ | refine st_storeB _ rJ rJ rO rO rK rJ rO ?_ | refine st_storeG _ rJ rK rE rN rJ rO (fun cs hcs => ?_)) | refine st_slice0 rJ rJ rJ rJ (fun g => ?_) | refine st_slice1T rJ rJ rJ rJ (fun g => ?_) | refine st_makeT rJ rJ rJ rJ rE rJ rO rO (fun v o => ?_) | (apply exlCopy; first | refine st_copyW _ rJ rE rK rE rD rJ rE rJ (fun zs hzs => ?_) | refine st_copyS _ rJ rJ rK rE rD rJ rE rJ rO rO (fun zs hzs => ?_)) | refine st_sliceB rJ rJ rJ rJ rJ rJ rJ rL rE rE rJ (fun g => ?_) | refine st_slice1I rJ rJ rJ rJ rJ rJ (fun g => ?_) | refine st_slice1B rJ rJ rJ rJ rJ rJ rO rO (fun g => ?_) | refine st_slice1S rJ rJ rJ rJ rJ rJ (fun g => ?_) | refine st_slice2B rJ rJ rJ rJ rJ rJ rJ rO rO rO rO (fun g => ?_) | (apply exlConv; first | refine st_bytes rJ rJ rJ rJ rJ rO (fun v o => ?_) | refine st_mark _ rJ rJ rK rJ rJ rJ ?_) | refine st_clear _ (0 : UInt8) rJ rK rJ rJ rJ rJ rJ rO ?_ | refine st_clearT _ rJ rK rO rJ rJ rO rE ?_ | (apply exlAppend; first | refine st_app0 rJ rJ rE rD rJ rE rJ rE rJ rJ rJ rO (fun v o => ?_) | refine st_app _ rJ rE rK rE rD rJ rE rJ rE rJ rJ rJ rO (fun v o => ?_) | refine st_shift _ rJ rJ rJ rK rO rJ rJ rJ rO rO rE ?_)) | (refine Ex.cond_d rJ (fun h => ?_) (fun h => ?_) <;> try (exfalso; omega))))
    refine Ex.loop [6, 27] (fun m vs L' => (m = 2 ∧ vs = [v0, .int .i64 0] ∧ L' = Evs_ v0 [] :: M) ∨ (m = 1 ∧ ∃ v : Value, v.oneCell' = true ∧ vs = [v, .int .i64 1] ∧ L' = Evs_ v l1 :: M) ∨ (m = 0 ∧ ∃ v : Value, v.oneCell' = true ∧ vs = [v, .int .i64 2] ∧ L' = Evs_ v (l1 ++ l2) :: M)) 2 (.inl ⟨rfl, rfl, rfl⟩) ?_
    rintro m vs g2 L' (⟨rfl, rfl, rfl⟩ | ⟨rfl, v3, o3, rfl, rfl⟩ | ⟨rfl, v3, o3, rfl, rfl⟩)
    · refine Ex.keep [6, 25, 26, 27] rG (fun gk => ?_)
      (repeat' (first | refine ExL.val rJ rJ rJ rV ?_ | (first | refine Ex.seq ?_ | refine Ex.region ?_ | refine ExL.nil ?_ | refine thn_n ?_ | refine Ex.cond_t rJ ?_ | refine Ex.cond_f rJ ?_ | refine Ex.skip ?_ | refine Ex.block ?_ | refine Ex.exit ?_ | refine Ex.ret ?_ | refine thn_exit ?_ | refine thn_ret ?_ | refine inb_n ?_ | refine inb_hit rJ ?_ | refine inb_miss rJ ?_ | refine inb_ret ?_ | refine rnd_exit ?_ | refine rnd_ret ?_ | refine meet_ret ?_ | refine meet_exit ?_) | (apply exlGuard; first | refine ExL.gskip rJ rJ rJ rJ rJ rJ ?_ | refine ExL.gtake rJ rJ rJ rJ ?_ | refine ExL.gskipU rJ rJ rJ rJ ?_ | (refine ExL.gsplit rJ rJ rJ (fun h => ?_) (fun h => ?_) <;> try (exfalso; omega))) | (first | refine st_new_ rJ rE (fun g => ?_) | refine st_boxA rJ rJ (fun g => ?_) | refine st_box1 rJ rE rN (fun g => ?_) | (apply exlStore; first | refine st_store1_ _ rJ rK rE rN rJ rJ rE rE ?_ | refine st_storeW_ _ rJ rK rJ rC rJ rJ rJ rE ?_ | refine st_storeR _ rJ rK rJ rE rJ rJ rE ?_ | refine st_storeA_ _ rJ rK rJ rC rJ rJ rJ rE rE ?_ | refine st_storeB _ rJ rJ rO rO rK rJ rO ?_ | refine st_storeG _ rJ rK rE rN rJ rO (fun cs hcs => ?_)) | refine st_slice0 rJ rJ rJ rJ (fun g => ?_) | refine st_slice1T rJ rJ rJ rJ (fun g => ?_) | refine st_makeT rJ rJ rJ rJ rE rJ rO rO (fun v o => ?_) | (apply exlCopy; first | refine st_copyW _ rJ rE rK rE rD rJ rE rJ (fun zs hzs => ?_) | refine st_copyS _ rJ rJ rK rE rD rJ rE rJ rO rO (fun zs hzs => ?_)) | refine st_sliceB rJ rJ rJ rJ rJ rJ rJ rL rE rE rJ (fun g => ?_) | refine st_slice1I rJ rJ rJ rJ rJ rJ (fun g => ?_) | refine st_slice1B rJ rJ rJ rJ rJ rJ rO rO (fun g => ?_) | refine st_slice1S rJ rJ rJ rJ rJ rJ (fun g => ?_) | refine st_slice2B rJ rJ rJ rJ rJ rJ rJ rO rO rO rO (fun g => ?_) | (apply exlConv; first | refine st_bytes rJ rJ rJ rJ rJ rO (fun v o => ?_) | refine st_mark _ rJ rJ rK rJ rJ rJ ?_) | refine st_clear _ (0 : UInt8) rJ rK rJ rJ rJ rJ rJ rO ?_ | refine st_clearT _ rJ rK rO rJ rJ rO rE ?_ | (apply exlAppend; first | refine st_app0 rJ rJ rE rD rJ rE rJ rE rJ rJ rJ rO (fun v o => ?_) | refine st_app _ rJ rE rK rE rD rJ rE rJ rE rJ rJ rJ rO (fun v o => ?_) | refine st_shift _ rJ rJ rJ rK rO rJ rJ rJ rO rO rE ?_)) | (refine Ex.cond_d rJ (fun h => ?_) (fun h => ?_) <;> try (exfalso; omega))))
      exact rnd_n ⟨1, _, by omega, Sub.refl _, .inr (.inl ⟨rfl, v, by assumption, rfl, rfl⟩)⟩
    · refine Ex.keep [6, 25, 26, 27] rG (fun gk => ?_)
      (repeat' (first | refine ExL.val rJ rJ rJ rV ?_ | (first | refine Ex.seq ?_ | refine Ex.region ?_ | refine ExL.nil ?_ | refine thn_n ?_ | refine Ex.cond_t rJ ?_ | refine Ex.cond_f rJ ?_ | refine Ex.skip ?_ | refine Ex.block ?_ | refine Ex.exit ?_ | refine Ex.ret ?_ | refine thn_exit ?_ | refine thn_ret ?_ | refine inb_n ?_ | refine inb_hit rJ ?_ | refine inb_miss rJ ?_ | refine inb_ret ?_ | refine rnd_exit ?_ | refine rnd_ret ?_ | refine meet_ret ?_ | refine meet_exit ?_) | (apply exlGuard; first | refine ExL.gskip rJ rJ rJ rJ rJ rJ ?_ | refine ExL.gtake rJ rJ rJ rJ ?_ | refine ExL.gskipU rJ rJ rJ rJ ?_ | (refine ExL.gsplit rJ rJ rJ (fun h => ?_) (fun h => ?_) <;> try (exfalso; omega))) | (first | refine st_new_ rJ rE (fun g => ?_) | refine st_boxA rJ rJ (fun g => ?_) | refine st_box1 rJ rE rN (fun g => ?_) | (apply exlStore; first | refine st_store1_ _ rJ rK rE rN rJ rJ rE rE ?_ | refine st_storeW_ _ rJ rK rJ rC rJ rJ rJ rE ?_ | refine st_storeR _ rJ rK rJ rE rJ rJ rE ?_ | refine st_storeA_ _ rJ rK rJ rC rJ rJ rJ rE rE ?_ | refine st_storeB _ rJ rJ rO rO rK rJ rO ?_ | refine st_storeG _ rJ rK rE rN rJ rO (fun cs hcs => ?_)) | refine st_slice0 rJ rJ rJ rJ (fun g => ?_) | refine st_slice1T rJ rJ rJ rJ (fun g => ?_) | refine st_makeT rJ rJ rJ rJ rE rJ rO rO (fun v o => ?_) | (apply exlCopy; first | refine st_copyW _ rJ rE rK rE rD rJ rE rJ (fun zs hzs => ?_) | refine st_copyS _ rJ rJ rK rE rD rJ rE rJ rO rO (fun zs hzs => ?_)) | refine st_sliceB rJ rJ rJ rJ rJ rJ rJ rL rE rE rJ (fun g => ?_) | refine st_slice1I rJ rJ rJ rJ rJ rJ (fun g => ?_) | refine st_slice1B rJ rJ rJ rJ rJ rJ rO rO (fun g => ?_) | refine st_slice1S rJ rJ rJ rJ rJ rJ (fun g => ?_) | refine st_slice2B rJ rJ rJ rJ rJ rJ rJ rO rO rO rO (fun g => ?_) | (apply exlConv; first | refine st_bytes rJ rJ rJ rJ rJ rO (fun v o => ?_) | refine st_mark _ rJ rJ rK rJ rJ rJ ?_) | refine st_clear _ (0 : UInt8) rJ rK rJ rJ rJ rJ rJ rO ?_ | refine st_clearT _ rJ rK rO rJ rJ rO rE ?_ | (apply exlAppend; first | refine st_app0 rJ rJ rE rD rJ rE rJ rE rJ rJ rJ rO (fun v o => ?_) | refine st_app _ rJ rE rK rE rD rJ rE rJ rE rJ rJ rJ rO (fun v o => ?_) | refine st_shift _ rJ rJ rJ rK rO rJ rJ rJ rO rO rE ?_)) | (refine Ex.cond_d rJ (fun h => ?_) (fun h => ?_) <;> try (exfalso; omega))))
      exact rnd_n ⟨0, _, by omega, Sub.refl _, .inr (.inr ⟨rfl, v, by assumption, rfl, rfl⟩)⟩
    · refine Ex.keep [6, 25, 26, 27] rG (fun gk => ?_)
      (repeat' (first | refine ExL.val rJ rJ rJ rV ?_ | (first | refine Ex.seq ?_ | refine Ex.region ?_ | refine ExL.nil ?_ | refine thn_n ?_ | refine Ex.cond_t rJ ?_ | refine Ex.cond_f rJ ?_ | refine Ex.skip ?_ | refine Ex.block ?_ | refine Ex.exit ?_ | refine Ex.ret ?_ | refine thn_exit ?_ | refine thn_ret ?_ | refine inb_n ?_ | refine inb_hit rJ ?_ | refine inb_miss rJ ?_ | refine inb_ret ?_ | refine rnd_exit ?_ | refine rnd_ret ?_ | refine meet_ret ?_ | refine meet_exit ?_) | (apply exlGuard; first | refine ExL.gskip rJ rJ rJ rJ rJ rJ ?_ | refine ExL.gtake rJ rJ rJ rJ ?_ | refine ExL.gskipU rJ rJ rJ rJ ?_ | (refine ExL.gsplit rJ rJ rJ (fun h => ?_) (fun h => ?_) <;> try (exfalso; omega))) | (first | refine st_new_ rJ rE (fun g => ?_) | refine st_boxA rJ rJ (fun g => ?_) | refine st_box1 rJ rE rN (fun g => ?_) | (apply exlStore; first | refine st_store1_ _ rJ rK rE rN rJ rJ rE rE ?_ | refine st_storeW_ _ rJ rK rJ rC rJ rJ rJ rE ?_ | refine st_storeR _ rJ rK rJ rE rJ rJ rE ?_ | refine st_storeA_ _ rJ rK rJ rC rJ rJ rJ rE rE ?_ | refine st_storeB _ rJ rJ rO rO rK rJ rO ?_ | refine st_storeG _ rJ rK rE rN rJ rO (fun cs hcs => ?_)) | refine st_slice0 rJ rJ rJ rJ (fun g => ?_) | refine st_slice1T rJ rJ rJ rJ (fun g => ?_) | refine st_makeT rJ rJ rJ rJ rE rJ rO rO (fun v o => ?_) | (apply exlCopy; first | refine st_copyW _ rJ rE rK rE rD rJ rE rJ (fun zs hzs => ?_) | refine st_copyS _ rJ rJ rK rE rD rJ rE rJ rO rO (fun zs hzs => ?_)) | refine st_sliceB rJ rJ rJ rJ rJ rJ rJ rL rE rE rJ (fun g => ?_) | refine st_slice1I rJ rJ rJ rJ rJ rJ (fun g => ?_) | refine st_slice1B rJ rJ rJ rJ rJ rJ rO rO (fun g => ?_) | refine st_slice1S rJ rJ rJ rJ rJ rJ (fun g => ?_) | refine st_slice2B rJ rJ rJ rJ rJ rJ rJ rO rO rO rO (fun g => ?_) | (apply exlConv; first | refine st_bytes rJ rJ rJ rJ rJ rO (fun v o => ?_) | refine st_mark _ rJ rJ rK rJ rJ rJ ?_) | refine st_clear _ (0 : UInt8) rJ rK rJ rJ rJ rJ rJ rO ?_ | refine st_clearT _ rJ rK rO rJ rJ rO rE ?_ | (apply exlAppend; first | refine st_app0 rJ rJ rE rD rJ rE rJ rE rJ rJ rJ rO (fun v o => ?_) | refine st_app _ rJ rE rK rE rD rJ rE rJ rE rJ rJ rJ rO (fun v o => ?_) | refine st_shift _ rJ rJ rJ rK rO rJ rJ rJ rO rO rE ?_)) | (refine Ex.cond_d rJ (fun h => ?_) (fun h => ?_) <;> try (exfalso; omega))))
      (first | refine fin_ret rS ?_ | refine fin_norm rS ?_)
      exact ⟨_, rB, o3, rfl⟩
/-- What Take does. -/
def TakeR (g : Nat) (most : Int) (c : Clk) (v0 : Value) (held l : List Ev) (M : List Assn) (r : Value) (L' : List Assn) : Prop :=
  (most < ((drain c (freshL c (held ++ l))).2.1.length : Int) ∧ r = .tuple #[.slice none 0 0, .int .i64 22] ∧ L' = InO g most c v0 :: Evs_ v0 held :: M) ∨
  (¬ most < ((drain c (freshL c (held ++ l))).2.1.length : Int) ∧ ∃ v1 v2 : Value, v1.oneCell' = true ∧ v2.oneCell' = true ∧ r = .tuple #[v1, .int .i64 0] ∧
    L' = InO g most (drain c (freshL c (held ++ l))).2.2 v2 :: Evs_ v2 (drain c (freshL c (held ++ l))).2.1 :: Evs_ v1 (drain c (freshL c (held ++ l))).1 :: M)
set_option maxHeartbeats 4000000 in
theorem inbox_Take (g0 : Nat) (most : Int) (c : Clk) (v0 u : Value) (held l : List Ev) (M : List Assn) (hu : RdT M u l) (o0 : v0.oneCell' = true) (ou : u.oneCell' = true) (hb1 : held.length ≤ 100000) (hb2 : l.length ≤ 100000) (hI : ∀ e ∈ held ++ l, I64 e.n) (hc : c.I) :
    Fn Try.prog 26 #[.pointer (some ⟨g0, 0, none⟩), u] (InO g0 most c v0 :: Evs_ v0 held :: M) (TakeR g0 most c v0 held l M) := by
  have hlen : (held ++ l).length ≤ 1000000 := by rw [List.length_append]; omega
  have hdl := drain_len c (freshL c (held ++ l)) (freshL_dst c _ [] List.Pairwise.nil)
  have hfl := freshL_len c (held ++ l)
  refine Fn.of_ex Try.func26 rfl Try.ntmps26 rfl ?_
  (repeat' (first | refine ExL.val rJ rJ rJ rV ?_ | (first | refine Ex.seq ?_ | refine Ex.region ?_ | refine ExL.nil ?_ | refine thn_n ?_ | refine Ex.cond_t rJ ?_ | refine Ex.cond_f rJ ?_ | refine Ex.skip ?_ | refine Ex.block ?_ | refine Ex.exit ?_ | refine Ex.ret ?_ | refine thn_exit ?_ | refine thn_ret ?_ | refine inb_n ?_ | refine inb_hit rJ ?_ | refine inb_miss rJ ?_ | refine inb_ret ?_ | refine rnd_exit ?_ | refine rnd_ret ?_ | refine meet_ret ?_ | refine meet_exit ?_) | (apply exlGuard; first | refine ExL.gskip rJ rJ rJ rJ rJ rJ ?_ | refine ExL.gtake rJ rJ rJ rJ ?_ | refine ExL.gskipU rJ rJ rJ rJ ?_ | (refine ExL.gsplit rJ rJ rJ (fun h => ?_) (fun h => ?_) <;> try (exfalso; omega))) | (first | refine st_new_ rJ rE (fun g => ?_) | refine st_boxA rJ rJ (fun g => ?_) | refine st_box1 rJ rE rN (fun g => ?_) | (apply exlStore; first | refine st_store1_ _ rJ rK rE rN rJ rJ rE rE ?_ | refine st_storeW_ _ rJ rK rJ rC rJ rJ rJ rE ?_ | refine st_storeR _ rJ rK rJ rE rJ rJ rE ?_ | refine st_storeA_ _ rJ rK rJ rC rJ rJ rJ rE rE ?_ | refine st_storeB _ rJ rJ rO rO rK rJ rO ?_ | refine st_storeG _ rJ rK rE rN rJ rO (fun cs hcs => ?_)) | refine st_slice0 rJ rJ rJ rJ (fun g => ?_) | refine st_slice1T rJ rJ rJ rJ (fun g => ?_) | refine st_makeT rJ rJ rJ rJ rE rJ rO rO (fun v o => ?_) | (apply exlCopy; first | refine st_copyW _ rJ rE rK rE rD rJ rE rJ (fun zs hzs => ?_) | refine st_copyS _ rJ rJ rK rE rD rJ rE rJ rO rO (fun zs hzs => ?_)) | refine st_sliceB rJ rJ rJ rJ rJ rJ rJ rL rE rE rJ (fun g => ?_) | refine st_slice1I rJ rJ rJ rJ rJ rJ (fun g => ?_) | refine st_slice1B rJ rJ rJ rJ rJ rJ rO rO (fun g => ?_) | refine st_slice1S rJ rJ rJ rJ rJ rJ (fun g => ?_) | refine st_slice2B rJ rJ rJ rJ rJ rJ rJ rO rO rO rO (fun g => ?_) | (apply exlConv; first | refine st_bytes rJ rJ rJ rJ rJ rO (fun v o => ?_) | refine st_mark _ rJ rJ rK rJ rJ rJ ?_) | refine st_clear _ (0 : UInt8) rJ rK rJ rJ rJ rJ rJ rO ?_ | refine st_clearT _ rJ rK rO rJ rJ rO rE ?_ | (apply exlAppend; first | refine st_app0 rJ rJ rE rD rJ rE rJ rE rJ rJ rJ rO (fun v o => ?_) | refine st_app _ rJ rE rK rE rD rJ rE rJ rE rJ rJ rJ rO (fun v o => ?_) | refine st_shift _ rJ rJ rJ rK rO rJ rJ rJ rO rO rE ?_)) | (refine Ex.cond_d rJ (fun h => ?_) (fun h => ?_) <;> try (exfalso; omega))))
  refine st_sliceN (parts := [(0, .tmp 17), (1, .tmp 18)]) (ps := [(0, [v0]), (1, [u])]) (vs := [v0, u]) (zs := [.slice none 0 0]) [(⟨v0, o0⟩ : Sv), ⟨u, ou⟩] rJ rJ rJ rJ rJ rJ (by kernel_rfl) rJ (evs_one rJ o0 (evs_one rJ ou evs_nil)) rJ rfl rfl rfl (fun g => ?_)
  refine st_callIs [] rJ Try.call48 rJ rJ (concat2 _ v0 u o0 ou held l _ rD rD rD (by omega) (by omega)) ?_
  rintro rc _ ⟨oc, rfl⟩
  refine st_callV [3, 3] (xs := [.tmp 20]) (fs := [.pointer (some ⟨g0, 0, none⟩)]) (vs := [rc]) rJ rJ Try.call47 rE rJ (inbox_drain g0 most c v0 rc held (held ++ l) _ rD hlen hI hc) ?_
  rintro _ _ ⟨v1, v2, o1, o2, rfl, rfl⟩
  obtain ⟨D, hD⟩ : ∃ D, D = drain c (freshL c (held ++ l)) := ⟨_, rfl⟩
  unfold TakeR
  rw [← hD] at hdl ⊢
  by_cases hm : most < (D.2.1.length : Int)
  · (repeat' (first | refine ExL.val rJ rJ rJ rV ?_ | (first | refine Ex.seq ?_ | refine Ex.region ?_ | refine ExL.nil ?_ | refine thn_n ?_ | refine Ex.cond_t rJ ?_ | refine Ex.cond_f rJ ?_ | refine Ex.skip ?_ | refine Ex.block ?_ | refine Ex.exit ?_ | refine Ex.ret ?_ | refine thn_exit ?_ | refine thn_ret ?_ | refine inb_n ?_ | refine inb_hit rJ ?_ | refine inb_miss rJ ?_ | refine inb_ret ?_ | refine rnd_exit ?_ | refine rnd_ret ?_ | refine meet_ret ?_ | refine meet_exit ?_) | (apply exlGuard; first | refine ExL.gskip rJ rJ rJ rJ rJ rJ ?_ | refine ExL.gtake rJ rJ rJ rJ ?_ | refine ExL.gskipU rJ rJ rJ rJ ?_ | (refine ExL.gsplit rJ rJ rJ (fun h => ?_) (fun h => ?_) <;> try (exfalso; omega))) | (first | refine st_new_ rJ rE (fun g => ?_) | refine st_boxA rJ rJ (fun g => ?_) | refine st_box1 rJ rE rN (fun g => ?_) | (apply exlStore; first | refine st_store1_ _ rJ rK rE rN rJ rJ rE rE ?_ | refine st_storeW_ _ rJ rK rJ rC rJ rJ rJ rE ?_ | refine st_storeR _ rJ rK rJ rE rJ rJ rE ?_ | refine st_storeA_ _ rJ rK rJ rC rJ rJ rJ rE rE ?_ | refine st_storeB _ rJ rJ rO rO rK rJ rO ?_ | refine st_storeG _ rJ rK rE rN rJ rO (fun cs hcs => ?_)) | refine st_slice0 rJ rJ rJ rJ (fun g => ?_) | refine st_slice1T rJ rJ rJ rJ (fun g => ?_) | refine st_makeT rJ rJ rJ rJ rE rJ rO rO (fun v o => ?_) | (apply exlCopy; first | refine st_copyW _ rJ rE rK rE rD rJ rE rJ (fun zs hzs => ?_) | refine st_copyS _ rJ rJ rK rE rD rJ rE rJ rO rO (fun zs hzs => ?_)) | refine st_sliceB rJ rJ rJ rJ rJ rJ rJ rL rE rE rJ (fun g => ?_) | refine st_slice1I rJ rJ rJ rJ rJ rJ (fun g => ?_) | refine st_slice1B rJ rJ rJ rJ rJ rJ rO rO (fun g => ?_) | refine st_slice1S rJ rJ rJ rJ rJ rJ (fun g => ?_) | refine st_slice2B rJ rJ rJ rJ rJ rJ rJ rO rO rO rO (fun g => ?_) | (apply exlConv; first | refine st_bytes rJ rJ rJ rJ rJ rO (fun v o => ?_) | refine st_mark _ rJ rJ rK rJ rJ rJ ?_) | refine st_clear _ (0 : UInt8) rJ rK rJ rJ rJ rJ rJ rO ?_ | refine st_clearT _ rJ rK rO rJ rJ rO rE ?_ | (apply exlAppend; first | refine st_app0 rJ rJ rE rD rJ rE rJ rE rJ rJ rJ rO (fun v o => ?_) | refine st_app _ rJ rE rK rE rD rJ rE rJ rE rJ rJ rJ rO (fun v o => ?_) | refine st_shift _ rJ rJ rJ rK rO rJ rJ rJ rO rO rE ?_)) | (refine Ex.cond_d rJ (fun h => ?_) (fun h => ?_) <;> try (exfalso; omega))))
    (first | refine fin_ret rS ?_ | refine fin_norm rS ?_)
    exact ⟨_, rB, .inl ⟨hm, rfl, rfl⟩⟩
  · (repeat' (first | refine ExL.val rJ rJ rJ rV ?_ | (first | refine Ex.seq ?_ | refine Ex.region ?_ | refine ExL.nil ?_ | refine thn_n ?_ | refine Ex.cond_t rJ ?_ | refine Ex.cond_f rJ ?_ | refine Ex.skip ?_ | refine Ex.block ?_ | refine Ex.exit ?_ | refine Ex.ret ?_ | refine thn_exit ?_ | refine thn_ret ?_ | refine inb_n ?_ | refine inb_hit rJ ?_ | refine inb_miss rJ ?_ | refine inb_ret ?_ | refine rnd_exit ?_ | refine rnd_ret ?_ | refine meet_ret ?_ | refine meet_exit ?_) | (apply exlGuard; first | refine ExL.gskip rJ rJ rJ rJ rJ rJ ?_ | refine ExL.gtake rJ rJ rJ rJ ?_ | refine ExL.gskipU rJ rJ rJ rJ ?_ | (refine ExL.gsplit rJ rJ rJ (fun h => ?_) (fun h => ?_) <;> try (exfalso; omega))) | (first | refine st_new_ rJ rE (fun g => ?_) | refine st_boxA rJ rJ (fun g => ?_) | refine st_box1 rJ rE rN (fun g => ?_) | (apply exlStore; first | refine st_store1_ _ rJ rK rE rN rJ rJ rE rE ?_ | refine st_storeW_ _ rJ rK rJ rC rJ rJ rJ rE ?_ | refine st_storeR _ rJ rK rJ rE rJ rJ rE ?_ | refine st_storeA_ _ rJ rK rJ rC rJ rJ rJ rE rE ?_ | refine st_storeB _ rJ rJ rO rO rK rJ rO ?_ | refine st_storeG _ rJ rK rE rN rJ rO (fun cs hcs => ?_)) | refine st_slice0 rJ rJ rJ rJ (fun g => ?_) | refine st_slice1T rJ rJ rJ rJ (fun g => ?_) | refine st_makeT rJ rJ rJ rJ rE rJ rO rO (fun v o => ?_) | (apply exlCopy; first | refine st_copyW _ rJ rE rK rE rD rJ rE rJ (fun zs hzs => ?_) | refine st_copyS _ rJ rJ rK rE rD rJ rE rJ rO rO (fun zs hzs => ?_)) | refine st_sliceB rJ rJ rJ rJ rJ rJ rJ rL rE rE rJ (fun g => ?_) | refine st_slice1I rJ rJ rJ rJ rJ rJ (fun g => ?_) | refine st_slice1B rJ rJ rJ rJ rJ rJ rO rO (fun g => ?_) | refine st_slice1S rJ rJ rJ rJ rJ rJ (fun g => ?_) | refine st_slice2B rJ rJ rJ rJ rJ rJ rJ rO rO rO rO (fun g => ?_) | (apply exlConv; first | refine st_bytes rJ rJ rJ rJ rJ rO (fun v o => ?_) | refine st_mark _ rJ rJ rK rJ rJ rJ ?_) | refine st_clear _ (0 : UInt8) rJ rK rJ rJ rJ rJ rJ rO ?_ | refine st_clearT _ rJ rK rO rJ rJ rO rE ?_ | (apply exlAppend; first | refine st_app0 rJ rJ rE rD rJ rE rJ rE rJ rJ rJ rO (fun v o => ?_) | refine st_app _ rJ rE rK rE rD rJ rE rJ rE rJ rJ rJ rO (fun v o => ?_) | refine st_shift _ rJ rJ rJ rK rO rJ rJ rJ rO rO rE ?_)) | (refine Ex.cond_d rJ (fun h => ?_) (fun h => ?_) <;> try (exfalso; omega))))
    (first | refine fin_ret rS ?_ | refine fin_norm rS ?_)
    exact ⟨_, Sub.trans rB (fronts_sub [3, 2] _), .inr ⟨hm, v1, v2, o1, o2, rfl, rfl⟩⟩
/-- What Own does. -/
def OwnR (g : Nat) (most : Int) (c : Clk) (v0 : Value) (held : List Ev) (e : Ev) (M : List Assn) (r : Value) (L' : List Assn) : Prop :=
  (¬ e.rdy c ∧ r = .int .i64 20 ∧ L' = InO g most c v0 :: Evs_ v0 held :: M) ∨ (e.rdy c ∧ r = .int .i64 0 ∧ L' = InO g most (c.set e.r.toNat e.n) v0 :: Evs_ v0 held :: M)
theorem drain_one (c : Clk) (e : Ev) : (e.rdy c → drain c (freshL c [e]) = ([e], [], c.set e.r.toNat e.n)) ∧ (¬ e.rdy c → (drain c (freshL c [e])).1 = []) := by
  have hf : freshL c [e] = if c.has e.r e.n = true then [] else [e] := by
    simp [freshL, freshS]
  constructor
  · intro h
    have hn : c.has e.r e.n = false := Clk.has_f fun k => by have := h.2.2.2.1; omega
    rw [hf, if_neg (by rw [hn]; simp)]
    have hd : Dst [e] := by simp [Dst]
    have hx : NextI c [e] 0 := ⟨by simp, h, fun j hj hr => by
      have : j = 0 := by simpa using hj
      subst this
      exact Int.le_refl _⟩
    rw [drain_step hd (by simp) hx]
    have hs : drain (c.set e.r.toNat e.n) ([] : List Ev) = ([], [], c.set e.r.toNat e.n) := drain_stop fun i ⟨hi, _⟩ => by simp at hi
    show (e :: (drain (c.set e.r.toNat e.n) []).1, (drain (c.set e.r.toNat e.n) []).2) = _
    rw [hs]
  · intro h
    rw [hf]
    rw [drain_stop]
    rintro i ⟨hi, hr, _⟩
    split at hi
    · simp at hi
    · rename_i hh
      have hi0 : i = 0 := by simpa using hi
      subst hi0
      apply h
      have hl : (if c.has e.r e.n = true then [] else [e]) = [e] := if_neg hh
      simp only [hl] at hr
      exact hr
set_option maxHeartbeats 4000000 in
theorem inbox_Own (g0 : Nat) (most : Int) (c : Clk) (v0 : Value) (held : List Ev) (e : Ev) (M : List Assn) (hI : I64 e.n) (hc : c.I) :
    Fn Try.prog 34 #[.pointer (some ⟨g0, 0, none⟩), .agg (Rep.cells e).toArray] (InO g0 most c v0 :: Evs_ v0 held :: M) (OwnR g0 most c v0 held e M) := by
  refine Fn.of_ex Try.func34 rfl Try.ntmps34 rfl ?_
  (repeat' (first | refine ExL.val rJ rJ rJ rV ?_ | (first | refine Ex.seq ?_ | refine Ex.region ?_ | refine ExL.nil ?_ | refine thn_n ?_ | refine Ex.cond_t rJ ?_ | refine Ex.cond_f rJ ?_ | refine Ex.skip ?_ | refine Ex.block ?_ | refine Ex.exit ?_ | refine Ex.ret ?_ | refine thn_exit ?_ | refine thn_ret ?_ | refine inb_n ?_ | refine inb_hit rJ ?_ | refine inb_miss rJ ?_ | refine inb_ret ?_ | refine rnd_exit ?_ | refine rnd_ret ?_ | refine meet_ret ?_ | refine meet_exit ?_) | (apply exlGuard; first | refine ExL.gskip rJ rJ rJ rJ rJ rJ ?_ | refine ExL.gtake rJ rJ rJ rJ ?_ | refine ExL.gskipU rJ rJ rJ rJ ?_ | (refine ExL.gsplit rJ rJ rJ (fun h => ?_) (fun h => ?_) <;> try (exfalso; omega))) | (first | refine st_new_ rJ rE (fun g => ?_) | refine st_boxA rJ rJ (fun g => ?_) | refine st_box1 rJ rE rN (fun g => ?_) | (apply exlStore; first | refine st_store1_ _ rJ rK rE rN rJ rJ rE rE ?_ | refine st_storeW_ _ rJ rK rJ rC rJ rJ rJ rE ?_ | refine st_storeR _ rJ rK rJ rE rJ rJ rE ?_ | refine st_storeA_ _ rJ rK rJ rC rJ rJ rJ rE rE ?_ | refine st_storeB _ rJ rJ rO rO rK rJ rO ?_ | refine st_storeG _ rJ rK rE rN rJ rO (fun cs hcs => ?_)) | refine st_slice0 rJ rJ rJ rJ (fun g => ?_) | refine st_slice1T rJ rJ rJ rJ (fun g => ?_) | refine st_makeT rJ rJ rJ rJ rE rJ rO rO (fun v o => ?_) | (apply exlCopy; first | refine st_copyW _ rJ rE rK rE rD rJ rE rJ (fun zs hzs => ?_) | refine st_copyS _ rJ rJ rK rE rD rJ rE rJ rO rO (fun zs hzs => ?_)) | refine st_sliceB rJ rJ rJ rJ rJ rJ rJ rL rE rE rJ (fun g => ?_) | refine st_slice1I rJ rJ rJ rJ rJ rJ (fun g => ?_) | refine st_slice1B rJ rJ rJ rJ rJ rJ rO rO (fun g => ?_) | refine st_slice1S rJ rJ rJ rJ rJ rJ (fun g => ?_) | refine st_slice2B rJ rJ rJ rJ rJ rJ rJ rO rO rO rO (fun g => ?_) | (apply exlConv; first | refine st_bytes rJ rJ rJ rJ rJ rO (fun v o => ?_) | refine st_mark _ rJ rJ rK rJ rJ rJ ?_) | refine st_clear _ (0 : UInt8) rJ rK rJ rJ rJ rJ rJ rO ?_ | refine st_clearT _ rJ rK rO rJ rJ rO rE ?_ | (apply exlAppend; first | refine st_app0 rJ rJ rE rD rJ rE rJ rE rJ rJ rJ rO (fun v o => ?_) | refine st_app _ rJ rE rK rE rD rJ rE rJ rE rJ rJ rJ rO (fun v o => ?_) | refine st_shift _ rJ rJ rJ rK rO rJ rJ rJ rO rO rE ?_)) | (refine Ex.cond_d rJ (fun h => ?_) (fun h => ?_) <;> try (exfalso; omega))))
  refine st_callIs [3, 3] rJ Try.call47 rE rJ (inbox_drain g0 most c v0 _ held [e] _ rD (by simp) (by intro x hx; simp at hx; subst hx; exact hI) hc) ?_
  rintro _ _ ⟨v1, v2, o1, o2, rfl, rfl⟩
  unfold OwnR
  by_cases h : e.rdy c
  · rw [(drain_one c e).1 h]
    (repeat' (first | refine ExL.val rJ rJ rJ rV ?_ | (first | refine Ex.seq ?_ | refine Ex.region ?_ | refine ExL.nil ?_ | refine thn_n ?_ | refine Ex.cond_t rJ ?_ | refine Ex.cond_f rJ ?_ | refine Ex.skip ?_ | refine Ex.block ?_ | refine Ex.exit ?_ | refine Ex.ret ?_ | refine thn_exit ?_ | refine thn_ret ?_ | refine inb_n ?_ | refine inb_hit rJ ?_ | refine inb_miss rJ ?_ | refine inb_ret ?_ | refine rnd_exit ?_ | refine rnd_ret ?_ | refine meet_ret ?_ | refine meet_exit ?_) | (apply exlGuard; first | refine ExL.gskip rJ rJ rJ rJ rJ rJ ?_ | refine ExL.gtake rJ rJ rJ rJ ?_ | refine ExL.gskipU rJ rJ rJ rJ ?_ | (refine ExL.gsplit rJ rJ rJ (fun h => ?_) (fun h => ?_) <;> try (exfalso; omega))) | (first | refine st_new_ rJ rE (fun g => ?_) | refine st_boxA rJ rJ (fun g => ?_) | refine st_box1 rJ rE rN (fun g => ?_) | (apply exlStore; first | refine st_store1_ _ rJ rK rE rN rJ rJ rE rE ?_ | refine st_storeW_ _ rJ rK rJ rC rJ rJ rJ rE ?_ | refine st_storeR _ rJ rK rJ rE rJ rJ rE ?_ | refine st_storeA_ _ rJ rK rJ rC rJ rJ rJ rE rE ?_ | refine st_storeB _ rJ rJ rO rO rK rJ rO ?_ | refine st_storeG _ rJ rK rE rN rJ rO (fun cs hcs => ?_)) | refine st_slice0 rJ rJ rJ rJ (fun g => ?_) | refine st_slice1T rJ rJ rJ rJ (fun g => ?_) | refine st_makeT rJ rJ rJ rJ rE rJ rO rO (fun v o => ?_) | (apply exlCopy; first | refine st_copyW _ rJ rE rK rE rD rJ rE rJ (fun zs hzs => ?_) | refine st_copyS _ rJ rJ rK rE rD rJ rE rJ rO rO (fun zs hzs => ?_)) | refine st_sliceB rJ rJ rJ rJ rJ rJ rJ rL rE rE rJ (fun g => ?_) | refine st_slice1I rJ rJ rJ rJ rJ rJ (fun g => ?_) | refine st_slice1B rJ rJ rJ rJ rJ rJ rO rO (fun g => ?_) | refine st_slice1S rJ rJ rJ rJ rJ rJ (fun g => ?_) | refine st_slice2B rJ rJ rJ rJ rJ rJ rJ rO rO rO rO (fun g => ?_) | (apply exlConv; first | refine st_bytes rJ rJ rJ rJ rJ rO (fun v o => ?_) | refine st_mark _ rJ rJ rK rJ rJ rJ ?_) | refine st_clear _ (0 : UInt8) rJ rK rJ rJ rJ rJ rJ rO ?_ | refine st_clearT _ rJ rK rO rJ rJ rO rE ?_ | (apply exlAppend; first | refine st_app0 rJ rJ rE rD rJ rE rJ rE rJ rJ rJ rO (fun v o => ?_) | refine st_app _ rJ rE rK rE rD rJ rE rJ rE rJ rJ rJ rO (fun v o => ?_) | refine st_shift _ rJ rJ rJ rK rO rJ rJ rJ rO rO rE ?_)) | (refine Ex.cond_d rJ (fun h => ?_) (fun h => ?_) <;> try (exfalso; omega))))
    (first | refine fin_ret rS ?_ | refine fin_norm rS ?_)
    exact ⟨_, Sub.trans rB (fronts_sub [2, 2] _), .inr ⟨h, rfl, rfl⟩⟩
  · have h1 := (drain_one c e).2 h
    generalize drain c (freshL c [e]) = D at h1 ⊢
    obtain ⟨D1, D2, D3⟩ := D
    simp only at h1
    subst h1
    (repeat' (first | refine ExL.val rJ rJ rJ rV ?_ | (first | refine Ex.seq ?_ | refine Ex.region ?_ | refine ExL.nil ?_ | refine thn_n ?_ | refine Ex.cond_t rJ ?_ | refine Ex.cond_f rJ ?_ | refine Ex.skip ?_ | refine Ex.block ?_ | refine Ex.exit ?_ | refine Ex.ret ?_ | refine thn_exit ?_ | refine thn_ret ?_ | refine inb_n ?_ | refine inb_hit rJ ?_ | refine inb_miss rJ ?_ | refine inb_ret ?_ | refine rnd_exit ?_ | refine rnd_ret ?_ | refine meet_ret ?_ | refine meet_exit ?_) | (apply exlGuard; first | refine ExL.gskip rJ rJ rJ rJ rJ rJ ?_ | refine ExL.gtake rJ rJ rJ rJ ?_ | refine ExL.gskipU rJ rJ rJ rJ ?_ | (refine ExL.gsplit rJ rJ rJ (fun h => ?_) (fun h => ?_) <;> try (exfalso; omega))) | (first | refine st_new_ rJ rE (fun g => ?_) | refine st_boxA rJ rJ (fun g => ?_) | refine st_box1 rJ rE rN (fun g => ?_) | (apply exlStore; first | refine st_store1_ _ rJ rK rE rN rJ rJ rE rE ?_ | refine st_storeW_ _ rJ rK rJ rC rJ rJ rJ rE ?_ | refine st_storeR _ rJ rK rJ rE rJ rJ rE ?_ | refine st_storeA_ _ rJ rK rJ rC rJ rJ rJ rE rE ?_ | refine st_storeB _ rJ rJ rO rO rK rJ rO ?_ | refine st_storeG _ rJ rK rE rN rJ rO (fun cs hcs => ?_)) | refine st_slice0 rJ rJ rJ rJ (fun g => ?_) | refine st_slice1T rJ rJ rJ rJ (fun g => ?_) | refine st_makeT rJ rJ rJ rJ rE rJ rO rO (fun v o => ?_) | (apply exlCopy; first | refine st_copyW _ rJ rE rK rE rD rJ rE rJ (fun zs hzs => ?_) | refine st_copyS _ rJ rJ rK rE rD rJ rE rJ rO rO (fun zs hzs => ?_)) | refine st_sliceB rJ rJ rJ rJ rJ rJ rJ rL rE rE rJ (fun g => ?_) | refine st_slice1I rJ rJ rJ rJ rJ rJ (fun g => ?_) | refine st_slice1B rJ rJ rJ rJ rJ rJ rO rO (fun g => ?_) | refine st_slice1S rJ rJ rJ rJ rJ rJ (fun g => ?_) | refine st_slice2B rJ rJ rJ rJ rJ rJ rJ rO rO rO rO (fun g => ?_) | (apply exlConv; first | refine st_bytes rJ rJ rJ rJ rJ rO (fun v o => ?_) | refine st_mark _ rJ rJ rK rJ rJ rJ ?_) | refine st_clear _ (0 : UInt8) rJ rK rJ rJ rJ rJ rJ rO ?_ | refine st_clearT _ rJ rK rO rJ rJ rO rE ?_ | (apply exlAppend; first | refine st_app0 rJ rJ rE rD rJ rE rJ rE rJ rJ rJ rO (fun v o => ?_) | refine st_app _ rJ rE rK rE rD rJ rE rJ rE rJ rJ rJ rO (fun v o => ?_) | refine st_shift _ rJ rJ rJ rK rO rJ rJ rJ rO rO rE ?_)) | (refine Ex.cond_d rJ (fun h => ?_) (fun h => ?_) <;> try (exfalso; omega))))
    (first | refine fin_ret rS ?_ | refine fin_norm rS ?_)
    exact ⟨_, Sub.trans rB (fronts_sub [2, 2] _), .inl ⟨h, rfl, rfl⟩⟩
end Go.Proofs.Ytmjpdibjdgjhgaa
/- What is left of a drained list, in plain words. No condition. -/
namespace Go.Proofs.Ytmjpdibjdgjhgaa
open Go.RowKit
set_option linter.unusedSimpArgs false
set_option linter.unusedVariables false
theorem le_refl_clk (c : Clk) : c.le c = true := (Clk.le_iff c c).2 fun j _ => Int.le_refl _
theorem le_trans_clk {a b c : Clk} (h : a.le b = true) (k : b.le c = true) : a.le c = true :=
  (Clk.le_iff a c).2 fun j hj => Int.le_trans ((Clk.le_iff a b).1 h j hj) ((Clk.le_iff b c).1 k j hj)
theorem has_mono {a b : Clk} (h : a.le b = true) {r n : Int} (k : a.has r n = true) : b.has r n = true := by
  obtain ⟨h0, h1, h2, h3⟩ := (Clk.has_iff a r n).1 k
  exact (Clk.has_iff b r n).2 ⟨h0, h1, h2, Int.le_trans h3 ((Clk.le_iff a b).1 h _ (by omega))⟩
theorem rdy_le {c : Clk} {e : Ev} (h : e.rdy c) : c.le (c.set e.r.toNat e.n) = true := by
  obtain ⟨h0, h1, h2, h3, _⟩ := h
  refine (Clk.le_iff _ _).2 fun j hj => ?_
  rw [Clk.get_set _ _ _ _ (by omega)]
  split
  · rename_i hje; subst hje; omega
  · exact Int.le_refl _
theorem rdy_has {c : Clk} {e : Ev} (h : e.rdy c) : (c.set e.r.toNat e.n).has e.r e.n = true := by
  obtain ⟨h0, h1, h2, h3, _⟩ := h
  refine (Clk.has_iff _ _ _).2 ⟨h0, h1, h2, ?_⟩
  rw [Clk.get_set _ _ _ _ (by omega), if_pos rfl]
  exact Int.le_refl _
/-- Who was not seen, and has another mark, is not seen then. -/
theorem rdy_keep {c : Clk} {e x : Ev} (h : e.rdy c) (hx : c.has x.r x.n = false) (hne : x.mk_ ≠ e.mk_) : (c.set e.r.toNat e.n).has x.r x.n = false := by
  obtain ⟨h0, h1, h2, h3, _⟩ := h
  refine Clk.has_f fun ⟨k0, k1, k2, k3⟩ => ?_
  rw [Clk.get_set _ _ _ _ (by omega)] at k3
  split at k3
  · rename_i hre
    have hr : x.r = e.r := by omega
    have hn : x.n ≠ e.n := fun hn => hne (by simp only [Ev.mk_, hr, hn])
    have : c.has x.r x.n = true := (Clk.has_iff _ _ _).2 ⟨k0, k1, k2, by rw [hr]; omega⟩
    rw [this] at hx
    cases hx
  · have : c.has x.r x.n = true := (Clk.has_iff _ _ _).2 ⟨k0, k1, k2, k3⟩
    rw [this] at hx
    cases hx
theorem mem_erase_ne {l : List Ev} (hd : Dst l) {i : Nat} (hi : i < l.length) {x : Ev} (hx : x ∈ l.eraseIdx i) : x ∈ l ∧ x.mk_ ≠ (l[i]'hi).mk_ := by
  obtain ⟨j, hji, hj⟩ := List.mem_eraseIdx_iff_getElem?.1 hx
  obtain ⟨hjl, rfl⟩ := List.getElem?_eq_some_iff.1 hj
  exact ⟨List.getElem_mem hjl, fun h => hji (hd.inj hjl hi h)⟩
theorem drain_le (c : Clk) (l : List Ev) : Dst l → c.le (drain c l).2.2 = true := by
  refine drain_induct (motive := fun c l => Dst l → c.le (drain c l).2.2 = true) (fun c l h _ => ?_) (fun c l i hi h ih hd => ?_) c l
  · rw [drain_stop h]; exact le_refl_clk c
  · rw [drain_step hd hi h]
    exact le_trans_clk (rdy_le h.2.1) (ih (hd.erase i))
theorem drain_done (c : Clk) (l : List Ev) : Dst l → ∀ e ∈ (drain c l).1, (drain c l).2.2.has e.r e.n = true := by
  refine drain_induct (motive := fun c l => Dst l → ∀ e ∈ (drain c l).1, (drain c l).2.2.has e.r e.n = true) (fun c l h _ => ?_) (fun c l i hi h ih hd => ?_) c l
  · rw [drain_stop h]; intro e he; simp at he
  · rw [drain_step hd hi h]
    intro e he
    rcases List.mem_cons.1 he with rfl | he
    · exact has_mono (drain_le _ _ (hd.erase i)) (rdy_has h.2.1)
    · exact ih (hd.erase i) e he
theorem drain_left (c : Clk) (l : List Ev) : Dst l → (∀ e ∈ l, c.has e.r e.n = false) → ∀ e ∈ (drain c l).2.1, (drain c l).2.2.has e.r e.n = false := by
  refine drain_induct (motive := fun c l => Dst l → (∀ e ∈ l, c.has e.r e.n = false) → ∀ e ∈ (drain c l).2.1, (drain c l).2.2.has e.r e.n = false) (fun c l h _ hn => ?_) (fun c l i hi h ih hd hn => ?_) c l
  · rw [drain_stop h]; exact hn
  · rw [drain_step hd hi h]
    refine ih (hd.erase i) fun e he => ?_
    obtain ⟨h1, h2⟩ := mem_erase_ne hd hi he
    exact rdy_keep h.2.1 (hn e h1) h2
theorem drain_end (c : Clk) (l : List Ev) : Dst l → ∀ i, ¬ NextI (drain c l).2.2 (drain c l).2.1 i := by
  refine drain_induct (motive := fun c l => Dst l → ∀ i, ¬ NextI (drain c l).2.2 (drain c l).2.1 i) (fun c l h _ => ?_) (fun c l i hi h ih hd => ?_) c l
  · rw [drain_stop h]; exact h
  · rw [drain_step hd hi h]; exact ih (hd.erase i)
theorem drain_I (c : Clk) (l : List Ev) : Dst l → c.I → (∀ e ∈ l, I64 e.n) → (drain c l).2.2.I := by
  refine drain_induct (motive := fun c l => Dst l → c.I → (∀ e ∈ l, I64 e.n) → (drain c l).2.2.I) (fun c l h _ hc _ => ?_) (fun c l i hi h ih hd hc hl => ?_) c l
  · rw [drain_stop h]; exact hc
  · rw [drain_step hd hi h]
    have hr := h.2.1
    exact ih (hd.erase i) (hc.set (by have := hr.1; have := hr.2.1; omega) (hl _ (List.getElem_mem hi))) fun e he => hl e ((List.eraseIdx_sublist ..).subset he)
/-- How often a mark is there. -/
def cnt (k : Mk) (l : List Ev) : Nat := l.countP fun e => decide (e.mk_ = k)
theorem cnt_take (k : Mk) (l : List Ev) (i : Nat) (h : i < l.length) : cnt k (l.take (i + 1)) = cnt k (l.take i) + if (l[i]'h).mk_ = k then 1 else 0 := by
  unfold cnt
  rw [List.take_succ_eq_append_getElem h, List.countP_append]
  congr 1
  simp [List.countP_cons]
theorem cnt_erase (k : Mk) (l : List Ev) (i : Nat) (h : i < l.length) : cnt k l = (if (l[i]'h).mk_ = k then 1 else 0) + cnt k (l.eraseIdx i) := by
  unfold cnt
  have e : l = l.take i ++ l[i]'h :: l.drop (i + 1) := by rw [List.getElem_cons_drop, List.take_append_drop]
  rw [List.eraseIdx_eq_take_drop_succ]
  conv => lhs; rw [e]
  rw [List.countP_append, List.countP_append, List.countP_cons]
  simp only [decide_eq_true_eq]
  omega
theorem drain_cnt (k : Mk) (c : Clk) (l : List Ev) : Dst l → cnt k (drain c l).1 + cnt k (drain c l).2.1 = cnt k l := by
  refine drain_induct (motive := fun c l => Dst l → cnt k (drain c l).1 + cnt k (drain c l).2.1 = cnt k l) (fun c l h _ => ?_) (fun c l i hi h ih hd => ?_) c l
  · rw [drain_stop h]; simp [cnt]
  · rw [drain_step hd hi h, cnt_erase k l i hi]
    have := ih (hd.erase i)
    have e : ∀ (a : Ev) (t : List Ev), cnt k (a :: t) = (if a.mk_ = k then 1 else 0) + cnt k t := fun a t => by
      unfold cnt
      rw [List.countP_cons]
      simp only [decide_eq_true_eq]
      omega
    show cnt k ((l[i]'hi) :: (drain (c.set (l[i]'hi).r.toNat (l[i]'hi).n) (l.eraseIdx i)).1) + cnt k (drain (c.set (l[i]'hi).r.toNat (l[i]'hi).n) (l.eraseIdx i)).2.1 = _
    rw [e]
    omega
theorem cnt_le_one {l : List Ev} (hd : Dst l) (k : Mk) : cnt k l ≤ 1 := by
  induction l with
  | nil => simp [cnt]
  | cons a l ih =>
    have h2 := List.pairwise_cons.1 hd
    unfold cnt at ih ⊢
    rw [List.countP_cons]
    split
    · rename_i hk
      have : l.countP (fun e => decide (e.mk_ = k)) = 0 := List.countP_eq_zero.2 fun x hx => by
        have := h2.1 x hx
        rw [of_decide_eq_true hk] at this
        simpa using fun h : x.mk_ = k => this h.symm
      omega
    · have := ih h2.2; omega
/-- Each mark of a list is there once behind, if it was not seen; else not at all. -/
theorem closed_cnt (c : Clk) (w : List Ev) (x : Ev) (hx : x ∈ w) : cnt x.mk_ (drain c (freshL c w)).1 + cnt x.mk_ (drain c (freshL c w)).2.1 = if c.has x.r x.n = true then 0 else 1 := by
  have hd : Dst (freshL c w) := freshL_dst c w [] List.Pairwise.nil
  rw [drain_cnt _ _ _ hd]
  cases hh : c.has x.r x.n
  · rw [if_neg (by simp)]
    have h1 := cnt_le_one hd x.mk_
    have h2 : ((freshL c w).any fun y => decide (y.mk_ = x.mk_)) = true := by
      rw [freshL_any c w x hh]
      exact List.any_eq_true.2 ⟨x, hx, decide_eq_true rfl⟩
    have h3 : 0 < cnt x.mk_ (freshL c w) := by
      unfold cnt
      rw [List.countP_pos_iff]
      obtain ⟨y, hy, hyx⟩ := List.any_eq_true.1 h2
      exact ⟨y, hy, hyx⟩
    omega
  · rw [if_pos rfl]
    unfold cnt
    refine List.countP_eq_zero.2 fun y hy => ?_
    have h1 := freshL_has c w y hy
    intro h
    have h := of_decide_eq_true h
    have e1 : y.r = x.r := congrArg Mk.r h
    have e2 : y.n = x.n := congrArg Mk.n h
    rw [e1, e2, hh] at h1
    cases h1
theorem freshL_id {c : Clk} {l : List Ev} (hd : Dst l) (h : ∀ e ∈ l, c.has e.r e.n = false) : freshL c l = l := by
  have key : ∀ (l acc : List Ev), Dst (acc ++ l) → (∀ e ∈ l, c.has e.r e.n = false) → l.foldl (freshS c) acc = acc ++ l := by
    intro l
    induction l with
    | nil => intro acc _ _; simp
    | cons a l ih =>
      intro acc hd h
      have hs : freshS c acc a = acc ++ [a] := by
        unfold freshS
        rw [if_neg]
        rintro (hx | hx)
        · obtain ⟨y, hy, hya⟩ := List.any_eq_true.1 hx
          exact (List.pairwise_append.1 hd).2.2 y hy a (by simp) (of_decide_eq_true hya)
        · rw [h a (by simp)] at hx; cases hx
      rw [List.foldl_cons, hs, ih (acc ++ [a]) (by simpa using hd) (fun e he => h e (List.mem_cons_of_mem _ he))]
      simp
  exact key l [] hd h
theorem drain_again (c : Clk) (w : List Ev) : drain (drain c (freshL c w)).2.2 (freshL (drain c (freshL c w)).2.2 (drain c (freshL c w)).2.1) = ([], (drain c (freshL c w)).2.1, (drain c (freshL c w)).2.2) := by
  have hd : Dst (freshL c w) := freshL_dst c w [] List.Pairwise.nil
  rw [freshL_id (hd.sublist (drain_sub _ _ hd)) (drain_left _ _ hd (freshL_has c w))]
  exact drain_stop (drain_end _ _ hd)
end Go.Proofs.Ytmjpdibjdgjhgaa
/- Creates of one replica, by number, in plain words. No condition. -/
namespace Go.Proofs.Ytmjpdibjdgjhgaa
open Go.RowKit
set_option linter.unusedSimpArgs false
set_option linter.unusedVariables false
def cyB : List UInt8 := [99, 121]
def madeE (n : Int) : Ev := ⟨0, n, ⟨n - 1, 0, 0, 0, 0⟩, n, ⟨1, cyB, 0, []⟩⟩
def clk0 (k : Int) : Clk := ⟨k, 0, 0, 0, 0⟩
def mades (ns : List Int) : List Ev := ns.map madeE
theorem madeE_mk (n : Int) : (madeE n).mk_ = ⟨0, n⟩ := rfl
theorem mades_dst {ns : List Int} (h : ns.Nodup) : Dst (mades ns) := by
  unfold Dst mades
  rw [List.pairwise_map]
  refine h.imp fun {a b} hab he => hab ?_
  have := congrArg Mk.n he
  exact this
theorem mades_mem {ns : List Int} {e : Ev} (h : e ∈ mades ns) : ∃ n, n ∈ ns ∧ e = madeE n := by
  obtain ⟨n, hn, rfl⟩ := List.mem_map.1 h
  exact ⟨n, hn, rfl⟩
theorem madeE_rdy (k n : Int) (hk : 0 ≤ k) : (madeE n).rdy (clk0 k) ↔ n = k + 1 := by
  unfold Ev.rdy
  constructor
  · rintro ⟨_, _, _, h, _⟩
    have : n - 1 = k := h
    omega
  · intro h
    refine ⟨Int.le_refl 0, (by decide : (0 : Int) < 5), by show 1 ≤ n; omega, by show n - 1 = k; omega, ?_⟩
    have : n - 1 ≤ k := by omega
    simp [Clk.le, madeE, clk0, this]
theorem madeE_has (k n : Int) : (clk0 k).has (madeE n).r (madeE n).n = true ↔ 1 ≤ n ∧ n ≤ k := by
  rw [Clk.has_iff]
  constructor
  · rintro ⟨_, _, a, b⟩; exact ⟨a, b⟩
  · rintro ⟨a, b⟩; exact ⟨Int.le_refl 0, (by decide : (0 : Int) < 5), a, b⟩
theorem mades_none {k : Int} {ns : List Int} (hk : 0 ≤ k) (h : ∀ n ∈ ns, n ≠ k + 1) : drain (clk0 k) (mades ns) = ([], mades ns, clk0 k) := by
  refine drain_stop fun i ⟨hi, hr, _⟩ => ?_
  obtain ⟨n, hn, he⟩ := mades_mem (List.getElem_mem hi)
  rw [he] at hr
  exact h n hn ((madeE_rdy k n hk).1 hr)
theorem mades_fresh {k : Int} {ns : List Int} (hd : ns.Nodup) (h : ∀ n ∈ ns, k < n) : freshL (clk0 k) (mades ns) = mades ns := by
  refine freshL_id (mades_dst hd) fun e he => ?_
  obtain ⟨n, hn, rfl⟩ := mades_mem he
  have := h n hn
  cases hh : (clk0 k).has (madeE n).r (madeE n).n
  · rfl
  · have := ((madeE_has k n).1 hh).2; omega
/-- One of them comes next. -/
theorem mades_next {k : Int} {ns : List Int} (hk : 0 ≤ k) (hd : ns.Nodup) {i : Nat} (hi : i < ns.length) (hn : ns[i]'hi = k + 1) :
    drain (clk0 k) (mades ns) = (madeE (k + 1) :: (drain (clk0 (k + 1)) (mades (ns.eraseIdx i))).1, (drain (clk0 (k + 1)) (mades (ns.eraseIdx i))).2) := by
  have hl : i < (mades ns).length := by simpa [mades] using hi
  have hg : (mades ns)[i]'hl = madeE (k + 1) := by simp [mades, hn]
  have hx : NextI (clk0 k) (mades ns) i := ⟨hl, by rw [hg]; exact (madeE_rdy k _ hk).2 rfl, fun j hj hr => by
    obtain ⟨n, hn, he⟩ := mades_mem (List.getElem_mem hj)
    rw [he, hg]
    exact Int.le_refl _⟩
  rw [drain_step (mades_dst hd) hl hx]
  have he : (mades ns).eraseIdx i = mades (ns.eraseIdx i) := (eraseIdx_map madeE ns i).symm
  rw [he, hg]
  rfl
def upN (k : Int) (m : Nat) : List Int := (List.range m).map fun (i : Nat) => k + i
theorem upN_len (k : Int) (m : Nat) : (upN k m).length = m := by simp [upN]
theorem upN_mem {k : Int} {m : Nat} {n : Int} : n ∈ upN k m ↔ k ≤ n ∧ n < k + m := by
  simp only [upN, List.mem_map, List.mem_range]
  constructor
  · rintro ⟨i, hi, rfl⟩; omega
  · rintro ⟨h1, h2⟩; exact ⟨(n - k).toNat, by omega, by omega⟩
theorem upN_succ' (k : Int) (m : Nat) : upN k (m + 1) = k :: upN (k + 1) m := by
  simp only [upN, List.range_succ_eq_map, List.map_cons, List.map_map]
  congr 1
  · simp
  · apply List.map_congr_left
    intro i _
    simp only [Function.comp]
    omega
theorem upN_succ (k : Int) (m : Nat) : upN k (m + 1) = upN k m ++ [k + m] := by simp [upN, List.range_succ]
theorem upN_nodup (k : Int) (m : Nat) : (upN k m).Nodup := by
  induction m generalizing k with
  | zero => simp [upN]
  | succ m ih =>
    rw [upN_succ']
    refine List.nodup_cons.2 ⟨fun h => ?_, ih (k + 1)⟩
    have := (upN_mem.1 h).1
    omega
/-- A run that can be delivered, and some that can't. -/
theorem drain_run : ∀ (m : Nat) (k : Int) (T : List Int), 0 ≤ k → (upN (k + 1) m ++ T).Nodup → (∀ t ∈ T, k + m + 1 < t) →
    drain (clk0 k) (mades (upN (k + 1) m ++ T)) = (mades (upN (k + 1) m), mades T, clk0 (k + m))
  | 0, k, T, hk, hd, hT => by
    have : upN (k + 1) 0 ++ T = T := by simp [upN]
    rw [this, mades_none hk (fun n hn => by have := hT n hn; omega)]
    simp [upN, mades]
  | m + 1, k, T, hk, hd, hT => by
    rw [upN_succ'] at hd ⊢
    have hd2 : (upN (k + 1 + 1) m ++ T).Nodup := (List.nodup_cons.1 hd).2
    rw [mades_next hk hd (i := 0) (by simp) (by simp)]
    have he : ((k + 1) :: upN (k + 1 + 1) m ++ T).eraseIdx 0 = upN (k + 1 + 1) m ++ T := by simp
    rw [he, drain_run m (k + 1) T (by omega) hd2 (fun t ht => by have := hT t ht; omega)]
    have : k + 1 + (m : Int) = k + ((m + 1 : Nat) : Int) := by omega
    rw [this]
    simp [mades]
/-- What came too early, and then the one that was missing. -/
theorem drain_late (m : Nat) (T : List Int) (hT : ∀ t ∈ T, (m : Int) + 2 < t) (hN : T.Nodup) :
    drain (clk0 0) (freshL (clk0 0) (mades (upN 2 m ++ (T ++ [1])))) = (mades (upN 1 (m + 1)), mades T, clk0 (m + 1)) := by
  have hd0 : (upN 2 m ++ T).Nodup := List.nodup_append.2 ⟨upN_nodup 2 m, hN, fun a ha b hb hab => by
    subst hab
    have h1 := (upN_mem.1 ha).2
    have h2 := hT _ hb
    omega⟩
  have hd : (upN 2 m ++ (T ++ [1])).Nodup := by
    rw [← List.append_assoc]
    refine List.nodup_append.2 ⟨hd0, by simp, fun a ha b hb hab => ?_⟩
    simp only [List.mem_singleton] at hb
    subst hb
    subst hab
    rcases List.mem_append.1 ha with h | h
    · have := (upN_mem.1 h).1; omega
    · have := hT _ h; omega
  rw [mades_fresh hd (fun n hn => by
    rcases List.mem_append.1 hn with h | h
    · have := (upN_mem.1 h).1; omega
    · rcases List.mem_append.1 h with h | h
      · have := hT _ h; omega
      · simp at h; omega)]
  have hi : (upN 2 m ++ T).length < (upN 2 m ++ (T ++ [1])).length := by simp
  rw [mades_next (Int.le_refl 0) hd (i := (upN 2 m ++ T).length) hi (by
    have : upN 2 m ++ (T ++ [1]) = (upN 2 m ++ T) ++ [1] := by rw [List.append_assoc]
    simp only [this]
    rw [List.getElem_append_right (by omega)]
    simp)]
  have he : (upN 2 m ++ (T ++ [1])).eraseIdx (upN 2 m ++ T).length = upN 2 m ++ T := by
    rw [← List.append_assoc, List.eraseIdx_append_of_length_le (Nat.le_refl _)]
    simp
  have hrun := drain_run m 1 T (by decide) hd0 (fun t ht => by have := hT t ht; omega)
  rw [he]
  have h01 : (0 : Int) + 1 = 1 := by decide
  rw [h01]
  have h12 : (1 : Int) + 1 = 2 := by decide
  rw [h12] at hrun
  rw [hrun, upN_succ']
  have : (1 : Int) + m = m + 1 := by omega
  rw [this]
  simp [mades]
/-- What can't be delivered yet. -/
theorem drain_early (ns : List Int) (hd : ns.Nodup) (h : ∀ n ∈ ns, 2 ≤ n) : drain (clk0 0) (freshL (clk0 0) (mades ns)) = ([], mades ns, clk0 0) := by
  rw [mades_fresh hd (fun n hn => by have := h n hn; omega)]
  exact mades_none (Int.le_refl 0) (fun n hn => by have := h n hn; omega)
/-- One that was seen, behind one that can't be delivered. -/
theorem drain_old (k t : Int) (hk : 1 ≤ k) (ht : k + 1 < t) : drain (clk0 k) (freshL (clk0 k) (mades [t, 1])) = ([], mades [t], clk0 k) := by
  have hf : freshL (clk0 k) (mades [t, 1]) = mades [t] := by
    have h1 : (clk0 k).has (madeE t).r (madeE t).n = false := by
      cases hh : (clk0 k).has (madeE t).r (madeE t).n
      · rfl
      · have := ((madeE_has k t).1 hh).2; omega
    have h2 : (clk0 k).has (madeE 1).r (madeE 1).n = true := (madeE_has k 1).2 ⟨Int.le_refl _, hk⟩
    show freshS (clk0 k) (freshS (clk0 k) [] (madeE t)) (madeE 1) = [madeE t]
    have e1 : freshS (clk0 k) [] (madeE t) = [madeE t] := by unfold freshS; rw [if_neg (by rw [h1]; simp)]; rfl
    rw [e1]
    unfold freshS
    rw [if_pos (.inr h2)]
  rw [hf]
  exact mades_none (by omega) (fun n hn => by simp at hn; omega)
end Go.Proofs.Ytmjpdibjdgjhgaa
/- A right past, made, in plain words. No condition. -/
namespace Go.Proofs.Ytmjpdibjdgjhgaa
open Go.RowKit
set_option linter.unusedSimpArgs false
set_option linter.unusedVariables false
/-- A choice. -/
structure Ch where
  r : Int
  from_ : Int
  sync : Bool
  ed : Ed
instance : Rep Ch := ⟨7, fun c => [.int .u8 c.r, .int .u8 c.from_, .bool c.sync, .int .i64 c.ed.kind, .string (S c.ed.key), .int .i64 c.ed.label, .string (S c.ed.value)], by decide, fun _ => rfl, fun _ => rfl⟩
structure Ch.Ok (c : Ch) : Prop where
  r : 0 ≤ c.r ∧ c.r ≤ 255
  f : 0 ≤ c.from_ ∧ c.from_ ≤ 255
  k : c.ed.key.length ≤ 140737488355328
  v : c.ed.value.length ≤ 140737488355328
def heightS (c : Clk) (s : Int × Bool) (e : Ev) : Int × Bool := if c.has e.r e.n = true ∧ (s.2 = false ∨ s.1 < e.h) then (e.h, true) else s
def heightP (out : List Ev) (c : Clk) : Int := (out.foldl (heightS c) (0, false)).1 + 1
/-- What is made so far, and what each replica has. -/
def mkStep (s : List Ev × List Clk) (ch : Ch) : List Ev × List Clk :=
  let c := s.2.getD (ch.r % 5).toNat Clk.zero
  if ch.sync = true then (s.1, s.2.set (ch.r % 5).toNat (c.join (s.2.getD (ch.from_ % 5).toNat Clk.zero)))
  else (s.1 ++ [⟨ch.r % 5, c.get (ch.r % 5).toNat + 1, c, heightP s.1 c, ch.ed.fit⟩], s.2.set (ch.r % 5).toNat (c.set (ch.r % 5).toNat (c.get (ch.r % 5).toNat + 1)))
def makeS (l : List Ch) : List Ev × List Clk := l.foldl mkStep ([], List.replicate 5 Clk.zero)
def makeP (l : List Ch) : List Ev := (makeS l).1
theorem makeS_take (l : List Ch) (i : Nat) (h : i < l.length) : makeS (l.take (i + 1)) = mkStep (makeS (l.take i)) (l[i]'h) := by
  rw [List.take_succ_eq_append_getElem h]
  unfold makeS
  rw [List.foldl_append]
  rfl
/-- Small numbers. -/
structure MkOk (m : Int) (s : List Ev × List Clk) : Prop where
  five : s.2.length = 5
  clk : ∀ c ∈ s.2, ∀ j, 0 ≤ c.get j ∧ c.get j ≤ m
  len : (s.1.length : Int) ≤ m
  n : ∀ e ∈ s.1, 1 ≤ e.n ∧ e.n ≤ m
  r : ∀ e ∈ s.1, 0 ≤ e.r ∧ e.r < 5
  h : ∀ e ∈ s.1, 1 ≤ e.h ∧ e.h ≤ m
theorem clk_join_get (a b : Clk) (j : Nat) : (a.join b).get j = max (a.get j) (b.get j) ∨ (a.join b).get j = 0 := by
  match j with
  | 0 => exact .inl rfl
  | 1 => exact .inl rfl
  | 2 => exact .inl rfl
  | 3 => exact .inl rfl
  | 4 => exact .inl rfl
  | j + 5 => right; simp [Clk.get]
theorem height_bd {out : List Ev} {c : Clk} {m : Int} (h : ∀ e ∈ out, 1 ≤ e.h ∧ e.h ≤ m) (hm : 0 ≤ m) : 0 ≤ (out.foldl (heightS c) (0, false)).1 ∧ (out.foldl (heightS c) (0, false)).1 ≤ m := by
  have key : ∀ (l : List Ev) (s : Int × Bool), (∀ e ∈ l, 1 ≤ e.h ∧ e.h ≤ m) → 0 ≤ s.1 ∧ s.1 ≤ m → 0 ≤ (l.foldl (heightS c) s).1 ∧ (l.foldl (heightS c) s).1 ≤ m := by
    intro l
    induction l with
    | nil => intro s _ h; exact h
    | cons a l ih =>
      intro s hl hs
      refine ih _ (fun e he => hl e (List.mem_cons_of_mem _ he)) ?_
      have := hl a (List.mem_cons_self ..)
      unfold heightS
      split
      · exact ⟨by show 0 ≤ a.h; omega, this.2⟩
      · exact hs
  exact key out (0, false) h ⟨Int.le_refl _, hm⟩
theorem getD_mem {s : List Clk} (h5 : s.length = 5) {r : Int} (h0 : 0 ≤ r ∧ r ≤ 255) : ∃ h : (r % 5).toNat < s.length, s.getD (r % 5).toNat Clk.zero = s[(r % 5).toNat]'h := by
  have h : (r % 5).toNat < s.length := by omega
  exact ⟨h, by simp [List.getD, h]⟩
theorem MkOk.step {m : Int} {s : List Ev × List Clk} (k : MkOk m s) {ch : Ch} (hc : ch.Ok) (hm : 0 ≤ m) : MkOk (m + 1) (mkStep s ch) := by
  obtain ⟨h5, h1, h2, h3, h4, h6⟩ := k
  obtain ⟨hl, he⟩ := getD_mem h5 hc.r
  obtain ⟨hl2, he2⟩ := getD_mem h5 hc.f
  have hcm := h1 _ (List.getElem_mem hl)
  have hcm2 := h1 _ (List.getElem_mem hl2)
  rw [← he] at hcm
  rw [← he2] at hcm2
  unfold mkStep
  simp only
  split
  · refine ⟨by simpa using h5, fun c hx j => ?_, by show (s.1.length : Int) ≤ m + 1; omega, fun e hx => by have := h3 e hx; omega, h4, fun e hx => by have := h6 e hx; omega⟩
    rcases List.mem_or_eq_of_mem_set hx with hx | rfl
    · have := h1 c hx j; omega
    · have a := hcm j
      have b := hcm2 j
      rcases clk_join_get (s.2.getD (ch.r % 5).toNat Clk.zero) (s.2.getD (ch.from_ % 5).toNat Clk.zero) j with h | h <;> rw [h] <;> omega
  · have hg := hcm (ch.r % 5).toNat
    have hb := height_bd (c := s.2.getD (ch.r % 5).toNat Clk.zero) h6 hm
    refine ⟨by simpa using h5, fun c hx j => ?_, by simp; omega, fun e hx => ?_, fun e hx => ?_, fun e hx => ?_⟩
    · rcases List.mem_or_eq_of_mem_set hx with hx | rfl
      · have := h1 c hx j; omega
      · rw [Clk.get_set _ _ _ _ (by omega)]
        split
        · omega
        · have := hcm j; omega
    · rcases List.mem_append.1 hx with hx | hx
      · have := h3 e hx; omega
      · simp only [List.mem_singleton] at hx; subst hx; simp only; omega
    · rcases List.mem_append.1 hx with hx | hx
      · exact h4 e hx
      · simp only [List.mem_singleton] at hx; subst hx; simp only; omega
    · rcases List.mem_append.1 hx with hx | hx
      · have := h6 e hx; omega
      · simp only [List.mem_singleton] at hx; subst hx; simp only [heightP]; omega
theorem makeS_ok (l : List Ch) (h : ∀ c ∈ l, c.Ok) : MkOk l.length (makeS l) := by
  have key : ∀ i, i ≤ l.length → MkOk i (makeS (l.take i)) := by
    intro i
    induction i with
    | zero =>
      intro _
      refine ⟨rfl, fun c hc j => ?_, by simp [makeS], by simp [makeS], by simp [makeS], by simp [makeS]⟩
      have : c = Clk.zero := List.eq_of_mem_replicate hc
      subst this
      match j with
      | 0 => decide
      | 1 => decide
      | 2 => decide
      | 3 => decide
      | 4 => decide
      | j + 5 => simp [Clk.get]
    | succ i ih =>
      intro hi
      rw [makeS_take l i (by omega)]
      have := (ih (by omega)).step (h _ (List.getElem_mem (by omega : i < l.length))) (by omega)
      simpa using this
  have := key l.length (Nat.le_refl _)
  rwa [List.take_length] at this
end Go.Proofs.Ytmjpdibjdgjhgaa
