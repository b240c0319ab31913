/- Several texts, one behind the other; each says in its head what it proves. No condition. -/
import Derived.Test.YtcclbplccnaonaaZlodhjkll
import Derived.Test.YtcclbplccnaonaaZkhepinjh
import Derived.Test.YtcclbplccnaonaaZegefllce
/- kithref08.Make, walked. No condition. -/
namespace Go.Proofs.Ytcclbplccnaonaa
open Go.RowKit
set_option linter.unusedSimpArgs false
set_option linter.unusedVariables false
@[reducible] def StM (g4 : Nat) (v3 : Value) (out : List Ev) (hv : List Clk) (M : List Assn) : List Assn := Evs_ v3 out :: Blk g4 48 (cellsOf hv) :: M
theorem Clk.cells_get (c : Clk) (i : Nat) (h : i < 5) : (Rep.cells c)[i]? = some (.int .i64 (c.get i)) := by
  match i, h with
  | 0, _ => rfl
  | 1, _ => rfl
  | 2, _ => rfl
  | 3, _ => rfl
  | 4, _ => rfl
theorem zero5 : cellsOf (List.replicate 5 Clk.zero) = List.replicate 25 (.int .i64 0) := rfl
set_option maxRecDepth 20000 attribute [local irreducible] Ex ExL Fn thn inb rnd fin meet Tab Mix mxEnd Val Sats RdT Rd RowT Row Blk Sub Fac ResV RVal Evs subs subs3 Hid Capd
set_option maxHeartbeats 8000000 in
theorem makePast_F (va : Value) (l : List Ch) (M : List Assn) (hr : RdT M va l) (hl : l.length ≤ 100000) (hok : ∀ c ∈ l, c.Ok) : Fn Try.prog 11 #[va] M fun v L' => v.oneCell' = true ∧ L' = Evs_ v (makeP l) :: M := by
  refine Fn.of_ex Try.func11 rfl Try.ntmps11 rfl ?_
  (repeat' (first | refine ExL.val rJ rJ rJ rV ?_ | (first | refine Ex.seq ?_ | refine Ex.region ?_ | refine ExL.nil ?_ | refine thn_n ?_ | refine Ex.cond_t rJ ?_ | refine Ex.cond_f rJ ?_ | refine Ex.skip ?_ | refine Ex.block ?_ | refine Ex.exit ?_ | refine Ex.ret ?_ | refine thn_exit ?_ | refine thn_ret ?_ | refine inb_n ?_ | refine inb_hit rJ ?_ | refine inb_miss rJ ?_ | refine inb_ret ?_ | refine rnd_exit ?_ | refine rnd_ret ?_ | refine meet_ret ?_ | refine meet_exit ?_) | (apply exlGuard; first | refine ExL.gskip rJ rJ rJ rJ rJ rJ ?_ | refine ExL.gtake rJ rJ rJ rJ ?_ | refine ExL.gskipU rJ rJ rJ rJ ?_ | (refine ExL.gsplit rJ rJ rJ (fun h => ?_) (fun h => ?_) <;> try (exfalso; omega))) | (first | refine st_new_ rJ rE (fun g => ?_) | refine st_boxA rJ rJ (fun g => ?_) | refine st_box1 rJ rE rN (fun g => ?_) | (apply exlStore; first | refine st_store1_ _ rJ rK rE rN rJ rJ rE rE ?_ | refine st_storeW_ _ rJ rK rJ rC rJ rJ rJ rE ?_ | refine st_storeR _ rJ rK rJ rE rJ rJ rE ?_ | refine st_storeA_ _ rJ rK rJ rC rJ rJ rJ rE rE ?_ | refine st_storeB _ rJ rJ rO rO rK rJ rO ?_ | refine st_storeG _ rJ rK rE rN rJ rO (fun cs hcs => ?_)) | refine st_slice0 rJ rJ rJ rJ (fun g => ?_) | refine st_slice1T rJ rJ rJ rJ (fun g => ?_) | refine st_makeT rJ rJ rJ rJ rE rJ rO rO (fun v o => ?_) | (apply exlCopy; first | refine st_copyW _ rJ rE rK rE rD rJ rE rJ (fun zs hzs => ?_) | refine st_copyS _ rJ rJ rK rE rD rJ rE rJ rO rO (fun zs hzs => ?_)) | refine st_sliceB rJ rJ rJ rJ rJ rJ rJ rL rE rE rJ (fun g => ?_) | refine st_slice1I rJ rJ rJ rJ rJ rJ (fun g => ?_) | refine st_slice1B rJ rJ rJ rJ rJ rJ rO rO (fun g => ?_) | refine st_slice1S rJ rJ rJ rJ rJ rJ (fun g => ?_) | refine st_slice2B rJ rJ rJ rJ rJ rJ rJ rO rO rO rO (fun g => ?_) | (apply exlConv; first | refine st_bytes rJ rJ rJ rJ rJ rO (fun v o => ?_) | refine st_mark _ rJ rJ rK rJ rJ rJ ?_) | refine st_clear _ (0 : UInt8) rJ rK rJ rJ rJ rJ rJ rO ?_ | refine st_clearT _ rJ rK rO rJ rJ rO rE ?_ | (apply exlAppend; first | refine st_app0 rJ rJ rE rD rJ rE rJ rE rJ rJ rJ rO (fun v o => ?_) | refine st_app _ rJ rE rK rE rD rJ rE rJ rE rJ rJ rJ rO (fun v o => ?_) | refine st_shift _ rJ rJ rJ rK rO rJ rJ rJ rO rO rE ?_)) | (refine Ex.cond_d rJ (fun h => ?_) (fun h => ?_) <;> try (exfalso; omega))))
  revert g
  intro g4
  revert g
  intro gs
  refine Ex.sub (L' := StM g4 (.slice (some ⟨gs, 0, none⟩) 0 0) [] (List.replicate 5 Clk.zero) M) ?_ (Sub.empty (α := Ev) (some ⟨gs, 0, none⟩) 31 _)
  refine Ex.loop [3, 5] (fun m vs L' => ∃ (i : Nat) (v3 : Value) (s : List Ev × List Clk), i ≤ l.length ∧ m = l.length - i ∧ s = makeS (l.take i) ∧ MkOk i s ∧ v3.oneCell' = true ∧ vs = [v3, .int .i64 i] ∧ L' = StM g4 v3 s.1 s.2 M) l.length ⟨0, _, makeS [], by omega, by omega, rfl, makeS_ok [] (by simp), rfl, rfl, rfl⟩ ?_
  rintro m vs g1 L' ⟨i, v3, s, hi, rfl, hs, hk, o3, rfl, rfl⟩
  obtain ⟨out, hv⟩ := s
  refine Ex.sub (L' := StM g4 v3 out hv M) ?_ (Sub.refl _)
  refine Ex.keep [0, 3, 4, 5] rG (fun gk => ?_)
  by_cases hlt : i < l.length
  · have hch := hok _ (List.getElem_mem hlt)
    have hst := makeS_take l i hlt
    rw [← hs] at hst
    have hk2 := hk.step hch (by omega)
    rw [← hst] at hk2
    obtain ⟨hR, hcR⟩ := getD_mem hk.five hch.r
    obtain ⟨hF, hcF⟩ := getD_mem hk.five hch.f
    have h5 := hk.five
    simp only at hR hcR hF hcF h5
    have hcm := hk.clk _ (List.getElem_mem hR) ((l[i]'hlt).r % 5).toNat
    have hchr := hch.r
    have hchf := hch.f
    unfold mkStep at hst
    simp only at hst
    rw [hcR, hcF] at hst
    (repeat' (first | refine ExL.val rJ rJ rJ rV ?_ | (first | refine Ex.seq ?_ | refine Ex.region ?_ | refine ExL.nil ?_ | refine thn_n ?_ | refine Ex.cond_t rJ ?_ | refine Ex.cond_f rJ ?_ | refine Ex.skip ?_ | refine Ex.block ?_ | refine Ex.exit ?_ | refine Ex.ret ?_ | refine thn_exit ?_ | refine thn_ret ?_ | refine inb_n ?_ | refine inb_hit rJ ?_ | refine inb_miss rJ ?_ | refine inb_ret ?_ | refine rnd_exit ?_ | refine rnd_ret ?_ | refine meet_ret ?_ | refine meet_exit ?_) | (apply exlGuard; first | refine ExL.gskip rJ rJ rJ rJ rJ rJ ?_ | refine ExL.gtake rJ rJ rJ rJ ?_ | refine ExL.gskipU rJ rJ rJ rJ ?_ | (refine ExL.gsplit rJ rJ rJ (fun h => ?_) (fun h => ?_) <;> try (exfalso; omega))) | (first | refine st_new_ rJ rE (fun g => ?_) | refine st_boxA rJ rJ (fun g => ?_) | refine st_box1 rJ rE rN (fun g => ?_) | (apply exlStore; first | refine st_store1_ _ rJ rK rE rN rJ rJ rE rE ?_ | refine st_storeW_ _ rJ rK rJ rC rJ rJ rJ rE ?_ | refine st_storeR _ rJ rK rJ rE rJ rJ rE ?_ | refine st_storeA_ _ rJ rK rJ rC rJ rJ rJ rE rE ?_ | refine st_storeB _ rJ rJ rO rO rK rJ rO ?_ | refine st_storeG _ rJ rK rE rN rJ rO (fun cs hcs => ?_)) | refine st_slice0 rJ rJ rJ rJ (fun g => ?_) | refine st_slice1T rJ rJ rJ rJ (fun g => ?_) | refine st_makeT rJ rJ rJ rJ rE rJ rO rO (fun v o => ?_) | (apply exlCopy; first | refine st_copyW _ rJ rE rK rE rD rJ rE rJ (fun zs hzs => ?_) | refine st_copyS _ rJ rJ rK rE rD rJ rE rJ rO rO (fun zs hzs => ?_)) | refine st_sliceB rJ rJ rJ rJ rJ rJ rJ rL rE rE rJ (fun g => ?_) | refine st_slice1I rJ rJ rJ rJ rJ rJ (fun g => ?_) | refine st_slice1B rJ rJ rJ rJ rJ rJ rO rO (fun g => ?_) | refine st_slice1S rJ rJ rJ rJ rJ rJ (fun g => ?_) | refine st_slice2B rJ rJ rJ rJ rJ rJ rJ rO rO rO rO (fun g => ?_) | (apply exlConv; first | refine st_bytes rJ rJ rJ rJ rJ rO (fun v o => ?_) | refine st_mark _ rJ rJ rK rJ rJ rJ ?_) | refine st_clear _ (0 : UInt8) rJ rK rJ rJ rJ rJ rJ rO ?_ | refine st_clearT _ rJ rK rO rJ rJ rO rE ?_ | (apply exlAppend; first | refine st_app0 rJ rJ rE rD rJ rE rJ rE rJ rJ rJ rO (fun v o => ?_) | refine st_app _ rJ rE rK rE rD rJ rE rJ rE rJ rJ rJ rO (fun v o => ?_) | refine st_shift _ rJ rJ rJ rK rO rJ rJ rJ rO rO rE ?_)) | (refine Ex.cond_d rJ (fun h => ?_) (fun h => ?_) <;> try (exfalso; omega))))
    cases hsy : (l[i]'hlt).sync
    · rw [hsy, if_neg (by simp)] at hst
      have hR5 : ((l[i]'hlt).r % 5).toNat < 5 := by omega
      have hkh : ∀ e ∈ out, 1 ≤ e.h ∧ e.h ≤ 1000000 := fun e he => by have := hk.h e he; omega
      have hkl : out.length ≤ 1000000 := by have h := hk.len; simp only at h; omega
      (repeat' (first | refine ExL.val rJ rJ rJ rV ?_ | (first | refine Ex.seq ?_ | refine Ex.region ?_ | refine ExL.nil ?_ | refine thn_n ?_ | refine Ex.cond_t rJ ?_ | refine Ex.cond_f rJ ?_ | refine Ex.skip ?_ | refine Ex.block ?_ | refine Ex.exit ?_ | refine Ex.ret ?_ | refine thn_exit ?_ | refine thn_ret ?_ | refine inb_n ?_ | refine inb_hit rJ ?_ | refine inb_miss rJ ?_ | refine inb_ret ?_ | refine rnd_exit ?_ | refine rnd_ret ?_ | refine meet_ret ?_ | refine meet_exit ?_) | (apply exlGuard; first | refine ExL.gskip rJ rJ rJ rJ rJ rJ ?_ | refine ExL.gtake rJ rJ rJ rJ ?_ | refine ExL.gskipU rJ rJ rJ rJ ?_ | (refine ExL.gsplit rJ rJ rJ (fun h => ?_) (fun h => ?_) <;> try (exfalso; omega))) | (first | refine st_new_ rJ rE (fun g => ?_) | refine st_boxA rJ rJ (fun g => ?_) | refine st_box1 rJ rE rN (fun g => ?_) | (apply exlStore; first | refine st_store1_ _ rJ rK rE rN rJ rJ rE rE ?_ | refine st_storeW_ _ rJ rK rJ rC rJ rJ rJ rE ?_ | refine st_storeR _ rJ rK rJ rE rJ rJ rE ?_ | refine st_storeA_ _ rJ rK rJ rC rJ rJ rJ rE rE ?_ | refine st_storeB _ rJ rJ rO rO rK rJ rO ?_ | refine st_storeG _ rJ rK rE rN rJ rO (fun cs hcs => ?_)) | refine st_slice0 rJ rJ rJ rJ (fun g => ?_) | refine st_slice1T rJ rJ rJ rJ (fun g => ?_) | refine st_makeT rJ rJ rJ rJ rE rJ rO rO (fun v o => ?_) | (apply exlCopy; first | refine st_copyW _ rJ rE rK rE rD rJ rE rJ (fun zs hzs => ?_) | refine st_copyS _ rJ rJ rK rE rD rJ rE rJ rO rO (fun zs hzs => ?_)) | refine st_sliceB rJ rJ rJ rJ rJ rJ rJ rL rE rE rJ (fun g => ?_) | refine st_slice1I rJ rJ rJ rJ rJ rJ (fun g => ?_) | refine st_slice1B rJ rJ rJ rJ rJ rJ rO rO (fun g => ?_) | refine st_slice1S rJ rJ rJ rJ rJ rJ (fun g => ?_) | refine st_slice2B rJ rJ rJ rJ rJ rJ rJ rO rO rO rO (fun g => ?_) | (apply exlConv; first | refine st_bytes rJ rJ rJ rJ rJ rO (fun v o => ?_) | refine st_mark _ rJ rJ rK rJ rJ rJ ?_) | refine st_clear _ (0 : UInt8) rJ rK rJ rJ rJ rJ rJ rO ?_ | refine st_clearT _ rJ rK rO rJ rJ rO rE ?_ | (apply exlAppend; first | refine st_app0 rJ rJ rE rD rJ rE rJ rE rJ rJ rJ rO (fun v o => ?_) | refine st_app _ rJ rE rK rE rD rJ rE rJ rE rJ rJ rJ rO (fun v o => ?_) | refine st_shift _ rJ rJ rJ rK rO rJ rJ rJ rO rO rE ?_)) | (refine Ex.cond_d rJ (fun h => ?_) (fun h => ?_) <;> try (exfalso; omega))))
      refine st_callIs [] rJ Try.call29 rJ rJ (fit_spec (l[i]'hlt).ed _ hch.k hch.v) ?_
      rintro _ _ ⟨rfl, rfl⟩
      generalize (l[i]'hlt).ed.fit = F at hst ⊢
      generalize hcc : hv[((l[i]'hlt).r % 5).toNat]'hR = c at hst hcm ⊢
      clear hcR hcF
      (repeat' (first | refine ExL.val rJ rJ rJ rV ?_ | (first | refine Ex.seq ?_ | refine Ex.region ?_ | refine ExL.nil ?_ | refine thn_n ?_ | refine Ex.cond_t rJ ?_ | refine Ex.cond_f rJ ?_ | refine Ex.skip ?_ | refine Ex.block ?_ | refine Ex.exit ?_ | refine Ex.ret ?_ | refine thn_exit ?_ | refine thn_ret ?_ | refine inb_n ?_ | refine inb_hit rJ ?_ | refine inb_miss rJ ?_ | refine inb_ret ?_ | refine rnd_exit ?_ | refine rnd_ret ?_ | refine meet_ret ?_ | refine meet_exit ?_) | (apply exlGuard; first | refine ExL.gskip rJ rJ rJ rJ rJ rJ ?_ | refine ExL.gtake rJ rJ rJ rJ ?_ | refine ExL.gskipU rJ rJ rJ rJ ?_ | (refine ExL.gsplit rJ rJ rJ (fun h => ?_) (fun h => ?_) <;> try (exfalso; omega))) | (first | refine st_new_ rJ rE (fun g => ?_) | refine st_boxA rJ rJ (fun g => ?_) | refine st_box1 rJ rE rN (fun g => ?_) | (apply exlStore; first | refine st_store1_ _ rJ rK rE rN rJ rJ rE rE ?_ | refine st_storeW_ _ rJ rK rJ rC rJ rJ rJ rE ?_ | refine st_storeR _ rJ rK rJ rE rJ rJ rE ?_ | refine st_storeA_ _ rJ rK rJ rC rJ rJ rJ rE rE ?_ | refine st_storeB _ rJ rJ rO rO rK rJ rO ?_ | refine st_storeG _ rJ rK rE rN rJ rO (fun cs hcs => ?_)) | refine st_slice0 rJ rJ rJ rJ (fun g => ?_) | refine st_slice1T rJ rJ rJ rJ (fun g => ?_) | refine st_makeT rJ rJ rJ rJ rE rJ rO rO (fun v o => ?_) | (apply exlCopy; first | refine st_copyW _ rJ rE rK rE rD rJ rE rJ (fun zs hzs => ?_) | refine st_copyS _ rJ rJ rK rE rD rJ rE rJ rO rO (fun zs hzs => ?_)) | refine st_sliceB rJ rJ rJ rJ rJ rJ rJ rL rE rE rJ (fun g => ?_) | refine st_slice1I rJ rJ rJ rJ rJ rJ (fun g => ?_) | refine st_slice1B rJ rJ rJ rJ rJ rJ rO rO (fun g => ?_) | refine st_slice1S rJ rJ rJ rJ rJ rJ (fun g => ?_) | refine st_slice2B rJ rJ rJ rJ rJ rJ rJ rO rO rO rO (fun g => ?_) | (apply exlConv; first | refine st_bytes rJ rJ rJ rJ rJ rO (fun v o => ?_) | refine st_mark _ rJ rJ rK rJ rJ rJ ?_) | refine st_clear _ (0 : UInt8) rJ rK rJ rJ rJ rJ rJ rO ?_ | refine st_clearT _ rJ rK rO rJ rJ rO rE ?_ | (apply exlAppend; first | refine st_app0 rJ rJ rE rD rJ rE rJ rE rJ rJ rJ rO (fun v o => ?_) | refine st_app _ rJ rE rK rE rD rJ rE rJ rE rJ rJ rJ rO (fun v o => ?_) | refine st_shift _ rJ rJ rJ rK rO rJ rJ rJ rO rO rE ?_)) | (refine Ex.cond_d rJ (fun h => ?_) (fun h => ?_) <;> try (exfalso; omega))))
      revert g
      intro g7
      refine Ex.reord [1] rE ?_
      (refine Ex.mixA 27 (_ :: _ :: M) rfl (by kernel_rfl) rF ?_; (repeat' (first | refine mx_val rJ rJ rJ rV ?_ | refine mx_nil ?_ | (first | refine mx_gskip rJ rJ rJ rJ ?_ | refine mx_gtake rJ rJ rJ ?_ | refine mx_gskipU rJ rJ rJ ?_) | (first | refine mx_slice1T rJ rJ rJ rJ (fun g => ?_) | refine mx_slice1I rJ rJ rJ rJ rJ rJ (fun g => ?_) | refine mx_slice1B rJ rJ rJ rJ rJ rJ rO rO (fun g => ?_) | refine mx_slice1S rJ rJ rJ rJ rJ rJ (fun g => ?_) | refine mx_slice2B rJ rJ rJ rJ rJ rJ rJ rO rO rO rO (fun g => ?_) | refine mx_alloc rJ rE (fun g => ?_) | refine mx_boxA rJ rJ (fun g => ?_) | refine mx_slice0 rJ rJ rJ rJ (fun g => ?_)) | (refine mx_gsplit rJ rJ rJ (fun h => ?_) (fun h => ?_) <;> try (exfalso; omega)) | (refine mx_act rJ rJ rJ ?_; (first | (apply exlCopy; first | refine st_copyW _ rJ rE rK rE rD rJ rE rJ (fun zs hzs => ?_) | refine st_copyS _ rJ rJ rK rE rD rJ rE rJ rO rO (fun zs hzs => ?_)) | (apply exlAppend; first | refine st_app0 rJ rJ rE rD rJ rE rJ rE rJ rJ rJ rO (fun v o => ?_) | refine st_app _ rJ rE rK rE rD rJ rE rJ rE rJ rJ rJ rO (fun v o => ?_) | refine st_shift _ rJ rJ rJ rK rO rJ rJ rJ rO rO rE ?_)); refine ExL.nil ?_; refine mxEnd_n rF ?_))))
      refine mx_val rJ rJ rJ (vl_loadB1 (xs := hv) (o := ((l[i]'hlt).r % 5).toNat) 1 rJ rJ rJ rJ hR hR5 (by rw [hcc]; exact Clk.cells_get c _ hR5)) ?_
      (repeat' (first | refine mx_val rJ rJ rJ rV ?_ | refine mx_nil ?_ | (first | refine mx_gskip rJ rJ rJ rJ ?_ | refine mx_gtake rJ rJ rJ ?_ | refine mx_gskipU rJ rJ rJ ?_) | (first | refine mx_slice1T rJ rJ rJ rJ (fun g => ?_) | refine mx_slice1I rJ rJ rJ rJ rJ rJ (fun g => ?_) | refine mx_slice1B rJ rJ rJ rJ rJ rJ rO rO (fun g => ?_) | refine mx_slice1S rJ rJ rJ rJ rJ rJ (fun g => ?_) | refine mx_slice2B rJ rJ rJ rJ rJ rJ rJ rO rO rO rO (fun g => ?_) | refine mx_alloc rJ rE (fun g => ?_) | refine mx_boxA rJ rJ (fun g => ?_) | refine mx_slice0 rJ rJ rJ rJ (fun g => ?_)) | (refine mx_gsplit rJ rJ rJ (fun h => ?_) (fun h => ?_) <;> try (exfalso; omega)) | (refine mx_act rJ rJ rJ ?_; (first | (apply exlCopy; first | refine st_copyW _ rJ rE rK rE rD rJ rE rJ (fun zs hzs => ?_) | refine st_copyS _ rJ rJ rK rE rD rJ rE rJ rO rO (fun zs hzs => ?_)) | (apply exlAppend; first | refine st_app0 rJ rJ rE rD rJ rE rJ rE rJ rJ rJ rO (fun v o => ?_) | refine st_app _ rJ rE rK rE rD rJ rE rJ rE rJ rJ rJ rO (fun v o => ?_) | refine st_shift _ rJ rJ rJ rK rO rJ rJ rJ rO rO rE ?_)); refine ExL.nil ?_; refine mxEnd_n rF ?_)))
      refine mx_val rJ rJ rJ (vl_loadBA (xs := hv) 1 rJ rJ rJ rJ rJ hR) ?_
      rw [hcc]
      (repeat' (first | refine mx_val rJ rJ rJ rV ?_ | refine mx_nil ?_ | (first | refine mx_gskip rJ rJ rJ rJ ?_ | refine mx_gtake rJ rJ rJ ?_ | refine mx_gskipU rJ rJ rJ ?_) | (first | refine mx_slice1T rJ rJ rJ rJ (fun g => ?_) | refine mx_slice1I rJ rJ rJ rJ rJ rJ (fun g => ?_) | refine mx_slice1B rJ rJ rJ rJ rJ rJ rO rO (fun g => ?_) | refine mx_slice1S rJ rJ rJ rJ rJ rJ (fun g => ?_) | refine mx_slice2B rJ rJ rJ rJ rJ rJ rJ rO rO rO rO (fun g => ?_) | refine mx_alloc rJ rE (fun g => ?_) | refine mx_boxA rJ rJ (fun g => ?_) | refine mx_slice0 rJ rJ rJ rJ (fun g => ?_)) | (refine mx_gsplit rJ rJ rJ (fun h => ?_) (fun h => ?_) <;> try (exfalso; omega)) | (refine mx_act rJ rJ rJ ?_; (first | (apply exlCopy; first | refine st_copyW _ rJ rE rK rE rD rJ rE rJ (fun zs hzs => ?_) | refine st_copyS _ rJ rJ rK rE rD rJ rE rJ rO rO (fun zs hzs => ?_)) | (apply exlAppend; first | refine st_app0 rJ rJ rE rD rJ rE rJ rE rJ rJ rJ rO (fun v o => ?_) | refine st_app _ rJ rE rK rE rD rJ rE rJ rE rJ rJ rJ rO (fun v o => ?_) | refine st_shift _ rJ rJ rJ rK rO rJ rJ rJ rO rO rE ?_)); refine ExL.nil ?_; refine mxEnd_n rF ?_)))
      refine mx_val rJ rJ rJ (vl_loadBA (xs := hv) 1 rJ rJ rJ rJ rJ hR) ?_
      rw [hcc]
      (repeat' (first | refine mx_val rJ rJ rJ rV ?_ | refine mx_nil ?_ | (first | refine mx_gskip rJ rJ rJ rJ ?_ | refine mx_gtake rJ rJ rJ ?_ | refine mx_gskipU rJ rJ rJ ?_) | (first | refine mx_slice1T rJ rJ rJ rJ (fun g => ?_) | refine mx_slice1I rJ rJ rJ rJ rJ rJ (fun g => ?_) | refine mx_slice1B rJ rJ rJ rJ rJ rJ rO rO (fun g => ?_) | refine mx_slice1S rJ rJ rJ rJ rJ rJ (fun g => ?_) | refine mx_slice2B rJ rJ rJ rJ rJ rJ rJ rO rO rO rO (fun g => ?_) | refine mx_alloc rJ rE (fun g => ?_) | refine mx_boxA rJ rJ (fun g => ?_) | refine mx_slice0 rJ rJ rJ rJ (fun g => ?_)) | (refine mx_gsplit rJ rJ rJ (fun h => ?_) (fun h => ?_) <;> try (exfalso; omega)) | (refine mx_act rJ rJ rJ ?_; (first | (apply exlCopy; first | refine st_copyW _ rJ rE rK rE rD rJ rE rJ (fun zs hzs => ?_) | refine st_copyS _ rJ rJ rK rE rD rJ rE rJ rO rO (fun zs hzs => ?_)) | (apply exlAppend; first | refine st_app0 rJ rJ rE rD rJ rE rJ rE rJ rJ rJ rO (fun v o => ?_) | refine st_app _ rJ rE rK rE rD rJ rE rJ rE rJ rJ rJ rO (fun v o => ?_) | refine st_shift _ rJ rJ rJ rK rO rJ rJ rJ rO rO rE ?_)); refine ExL.nil ?_; refine mxEnd_n rF ?_)))
      (refine mx_act rJ rJ rJ ?_; refine st_callIs [] rJ Try.call24 rE rJ (height_F v3 out c _ rD hkl hkh) ?_)
      rintro _ _ ⟨rfl, rfl⟩
      generalize heightP out c = hh at hst ⊢
      (refine ExL.nil ?_; refine mxEnd_n rF ?_; (repeat' (first | refine mx_val rJ rJ rJ rV ?_ | refine mx_nil ?_ | (first | refine mx_gskip rJ rJ rJ rJ ?_ | refine mx_gtake rJ rJ rJ ?_ | refine mx_gskipU rJ rJ rJ ?_) | (first | refine mx_slice1T rJ rJ rJ rJ (fun g => ?_) | refine mx_slice1I rJ rJ rJ rJ rJ rJ (fun g => ?_) | refine mx_slice1B rJ rJ rJ rJ rJ rJ rO rO (fun g => ?_) | refine mx_slice1S rJ rJ rJ rJ rJ rJ (fun g => ?_) | refine mx_slice2B rJ rJ rJ rJ rJ rJ rJ rO rO rO rO (fun g => ?_) | refine mx_alloc rJ rE (fun g => ?_) | refine mx_boxA rJ rJ (fun g => ?_) | refine mx_slice0 rJ rJ rJ rJ (fun g => ?_)) | (refine mx_gsplit rJ rJ rJ (fun h => ?_) (fun h => ?_) <;> try (exfalso; omega)) | (refine mx_act rJ rJ rJ ?_; (first | (apply exlCopy; first | refine st_copyW _ rJ rE rK rE rD rJ rE rJ (fun zs hzs => ?_) | refine st_copyS _ rJ rJ rK rE rD rJ rE rJ rO rO (fun zs hzs => ?_)) | (apply exlAppend; first | refine st_app0 rJ rJ rE rD rJ rE rJ rE rJ rJ rJ rO (fun v o => ?_) | refine st_app _ rJ rE rK rE rD rJ rE rJ rE rJ rJ rJ rO (fun v o => ?_) | refine st_shift _ rJ rJ rJ rK rO rJ rJ rJ rO rO rE ?_)); refine ExL.nil ?_; refine mxEnd_n rF ?_))))
      refine mx_slice1T (a := (⟨(l[i]'hlt).r % 5, c.get ((l[i]'hlt).r % 5).toNat + 1, c, hh, F⟩ : Ev)) rJ rJ rJ rJ (fun g => ?_)
      (repeat' (first | refine mx_val rJ rJ rJ rV ?_ | refine mx_nil ?_ | (first | refine mx_gskip rJ rJ rJ rJ ?_ | refine mx_gtake rJ rJ rJ ?_ | refine mx_gskipU rJ rJ rJ ?_) | (first | refine mx_slice1T rJ rJ rJ rJ (fun g => ?_) | refine mx_slice1I rJ rJ rJ rJ rJ rJ (fun g => ?_) | refine mx_slice1B rJ rJ rJ rJ rJ rJ rO rO (fun g => ?_) | refine mx_slice1S rJ rJ rJ rJ rJ rJ (fun g => ?_) | refine mx_slice2B rJ rJ rJ rJ rJ rJ rJ rO rO rO rO (fun g => ?_) | refine mx_alloc rJ rE (fun g => ?_) | refine mx_boxA rJ rJ (fun g => ?_) | refine mx_slice0 rJ rJ rJ rJ (fun g => ?_)) | (refine mx_gsplit rJ rJ rJ (fun h => ?_) (fun h => ?_) <;> try (exfalso; omega)) | (refine mx_act rJ rJ rJ ?_; (first | (apply exlCopy; first | refine st_copyW _ rJ rE rK rE rD rJ rE rJ (fun zs hzs => ?_) | refine st_copyS _ rJ rJ rK rE rD rJ rE rJ rO rO (fun zs hzs => ?_)) | (apply exlAppend; first | refine st_app0 rJ rJ rE rD rJ rE rJ rE rJ rJ rJ rO (fun v o => ?_) | refine st_app _ rJ rE rK rE rD rJ rE rJ rE rJ rJ rJ rO (fun v o => ?_) | refine st_shift _ rJ rJ rJ rK rO rJ rJ rJ rO rO rE ?_)); refine ExL.nil ?_; refine mxEnd_n rF ?_)))
      (repeat' (first | refine ExL.val rJ rJ rJ rV ?_ | (first | refine Ex.seq ?_ | refine Ex.region ?_ | refine ExL.nil ?_ | refine thn_n ?_ | refine Ex.cond_t rJ ?_ | refine Ex.cond_f rJ ?_ | refine Ex.skip ?_ | refine Ex.block ?_ | refine Ex.exit ?_ | refine Ex.ret ?_ | refine thn_exit ?_ | refine thn_ret ?_ | refine inb_n ?_ | refine inb_hit rJ ?_ | refine inb_miss rJ ?_ | refine inb_ret ?_ | refine rnd_exit ?_ | refine rnd_ret ?_ | refine meet_ret ?_ | refine meet_exit ?_) | (apply exlGuard; first | refine ExL.gskip rJ rJ rJ rJ rJ rJ ?_ | refine ExL.gtake rJ rJ rJ rJ ?_ | refine ExL.gskipU rJ rJ rJ rJ ?_ | (refine ExL.gsplit rJ rJ rJ (fun h => ?_) (fun h => ?_) <;> try (exfalso; omega))) | (first | refine st_new_ rJ rE (fun g => ?_) | refine st_boxA rJ rJ (fun g => ?_) | refine st_box1 rJ rE rN (fun g => ?_) | (apply exlStore; first | refine st_store1_ _ rJ rK rE rN rJ rJ rE rE ?_ | refine st_storeW_ _ rJ rK rJ rC rJ rJ rJ rE ?_ | refine st_storeR _ rJ rK rJ rE rJ rJ rE ?_ | refine st_storeA_ _ rJ rK rJ rC rJ rJ rJ rE rE ?_ | refine st_storeB _ rJ rJ rO rO rK rJ rO ?_ | refine st_storeG _ rJ rK rE rN rJ rO (fun cs hcs => ?_)) | refine st_slice0 rJ rJ rJ rJ (fun g => ?_) | refine st_slice1T rJ rJ rJ rJ (fun g => ?_) | refine st_makeT rJ rJ rJ rJ rE rJ rO rO (fun v o => ?_) | (apply exlCopy; first | refine st_copyW _ rJ rE rK rE rD rJ rE rJ (fun zs hzs => ?_) | refine st_copyS _ rJ rJ rK rE rD rJ rE rJ rO rO (fun zs hzs => ?_)) | refine st_sliceB rJ rJ rJ rJ rJ rJ rJ rL rE rE rJ (fun g => ?_) | refine st_slice1I rJ rJ rJ rJ rJ rJ (fun g => ?_) | refine st_slice1B rJ rJ rJ rJ rJ rJ rO rO (fun g => ?_) | refine st_slice1S rJ rJ rJ rJ rJ rJ (fun g => ?_) | refine st_slice2B rJ rJ rJ rJ rJ rJ rJ rO rO rO rO (fun g => ?_) | (apply exlConv; first | refine st_bytes rJ rJ rJ rJ rJ rO (fun v o => ?_) | refine st_mark _ rJ rJ rK rJ rJ rJ ?_) | refine st_clear _ (0 : UInt8) rJ rK rJ rJ rJ rJ rJ rO ?_ | refine st_clearT _ rJ rK rO rJ rJ rO rE ?_ | (apply exlAppend; first | refine st_app0 rJ rJ rE rD rJ rE rJ rE rJ rJ rJ rO (fun v o => ?_) | refine st_app _ rJ rE rK rE rD rJ rE rJ rE rJ rJ rJ rO (fun v o => ?_) | refine st_shift _ rJ rJ rJ rK rO rJ rJ rJ rO rO rE ?_)) | (refine Ex.cond_d rJ (fun h => ?_) (fun h => ?_) <;> try (exfalso; omega))))
      refine Ex.sub (L' := StM g4 v (out ++ [(⟨(l[i]'hlt).r % 5, c.get ((l[i]'hlt).r % 5).toNat + 1, c, hh, F⟩ : Ev)]) hv M) ?_ rB
      (refine Ex.mixA 9 _ rfl (by kernel_rfl) (Fac.refl _) ?_; (repeat' (first | refine mx_val rJ rJ rJ rV ?_ | refine mx_nil ?_ | (first | refine mx_gskip rJ rJ rJ rJ ?_ | refine mx_gtake rJ rJ rJ ?_ | refine mx_gskipU rJ rJ rJ ?_) | (first | refine mx_slice1T rJ rJ rJ rJ (fun g => ?_) | refine mx_slice1I rJ rJ rJ rJ rJ rJ (fun g => ?_) | refine mx_slice1B rJ rJ rJ rJ rJ rJ rO rO (fun g => ?_) | refine mx_slice1S rJ rJ rJ rJ rJ rJ (fun g => ?_) | refine mx_slice2B rJ rJ rJ rJ rJ rJ rJ rO rO rO rO (fun g => ?_) | refine mx_alloc rJ rE (fun g => ?_) | refine mx_boxA rJ rJ (fun g => ?_) | refine mx_slice0 rJ rJ rJ rJ (fun g => ?_)) | (refine mx_gsplit rJ rJ rJ (fun h => ?_) (fun h => ?_) <;> try (exfalso; omega)) | (refine mx_act rJ rJ rJ ?_; (first | (apply exlCopy; first | refine st_copyW _ rJ rE rK rE rD rJ rE rJ (fun zs hzs => ?_) | refine st_copyS _ rJ rJ rK rE rD rJ rE rJ rO rO (fun zs hzs => ?_)) | (apply exlAppend; first | refine st_app0 rJ rJ rE rD rJ rE rJ rE rJ rJ rJ rO (fun v o => ?_) | refine st_app _ rJ rE rK rE rD rJ rE rJ rE rJ rJ rJ rO (fun v o => ?_) | refine st_shift _ rJ rJ rJ rK rO rJ rJ rJ rO rO rE ?_)); refine ExL.nil ?_; refine mxEnd_n rF ?_))))
      refine mx_val rJ rJ rJ (vl_loadB1 (xs := hv) (o := ((l[i]'hlt).r % 5).toNat) 1 rJ rJ rJ rJ hR hR5 (by rw [hcc]; exact Clk.cells_get c _ hR5)) ?_
      (repeat' (first | refine mx_val rJ rJ rJ rV ?_ | refine mx_nil ?_ | (first | refine mx_gskip rJ rJ rJ rJ ?_ | refine mx_gtake rJ rJ rJ ?_ | refine mx_gskipU rJ rJ rJ ?_) | (first | refine mx_slice1T rJ rJ rJ rJ (fun g => ?_) | refine mx_slice1I rJ rJ rJ rJ rJ rJ (fun g => ?_) | refine mx_slice1B rJ rJ rJ rJ rJ rJ rO rO (fun g => ?_) | refine mx_slice1S rJ rJ rJ rJ rJ rJ (fun g => ?_) | refine mx_slice2B rJ rJ rJ rJ rJ rJ rJ rO rO rO rO (fun g => ?_) | refine mx_alloc rJ rE (fun g => ?_) | refine mx_boxA rJ rJ (fun g => ?_) | refine mx_slice0 rJ rJ rJ rJ (fun g => ?_)) | (refine mx_gsplit rJ rJ rJ (fun h => ?_) (fun h => ?_) <;> try (exfalso; omega)) | (refine mx_act rJ rJ rJ ?_; (first | (apply exlCopy; first | refine st_copyW _ rJ rE rK rE rD rJ rE rJ (fun zs hzs => ?_) | refine st_copyS _ rJ rJ rK rE rD rJ rE rJ rO rO (fun zs hzs => ?_)) | (apply exlAppend; first | refine st_app0 rJ rJ rE rD rJ rE rJ rE rJ rJ rJ rO (fun v o => ?_) | refine st_app _ rJ rE rK rE rD rJ rE rJ rE rJ rJ rJ rO (fun v o => ?_) | refine st_shift _ rJ rJ rJ rK rO rJ rJ rJ rO rO rE ?_)); refine ExL.nil ?_; refine mxEnd_n rF ?_)))
      (repeat' (first | refine ExL.val rJ rJ rJ rV ?_ | (first | refine Ex.seq ?_ | refine Ex.region ?_ | refine ExL.nil ?_ | refine thn_n ?_ | refine Ex.cond_t rJ ?_ | refine Ex.cond_f rJ ?_ | refine Ex.skip ?_ | refine Ex.block ?_ | refine Ex.exit ?_ | refine Ex.ret ?_ | refine thn_exit ?_ | refine thn_ret ?_ | refine inb_n ?_ | refine inb_hit rJ ?_ | refine inb_miss rJ ?_ | refine inb_ret ?_ | refine rnd_exit ?_ | refine rnd_ret ?_ | refine meet_ret ?_ | refine meet_exit ?_) | (apply exlGuard; first | refine ExL.gskip rJ rJ rJ rJ rJ rJ ?_ | refine ExL.gtake rJ rJ rJ rJ ?_ | refine ExL.gskipU rJ rJ rJ rJ ?_ | (refine ExL.gsplit rJ rJ rJ (fun h => ?_) (fun h => ?_) <;> try (exfalso; omega))) | (first | refine st_new_ rJ rE (fun g => ?_) | refine st_boxA rJ rJ (fun g => ?_) | refine st_box1 rJ rE rN (fun g => ?_) | (apply exlStore; first | refine st_store1_ _ rJ rK rE rN rJ rJ rE rE ?_ | refine st_storeW_ _ rJ rK rJ rC rJ rJ rJ rE ?_ | refine st_storeR _ rJ rK rJ rE rJ rJ rE ?_ | refine st_storeA_ _ rJ rK rJ rC rJ rJ rJ rE rE ?_ | refine st_storeB _ rJ rJ rO rO rK rJ rO ?_ | refine st_storeG _ rJ rK rE rN rJ rO (fun cs hcs => ?_)) | refine st_slice0 rJ rJ rJ rJ (fun g => ?_) | refine st_slice1T rJ rJ rJ rJ (fun g => ?_) | refine st_makeT rJ rJ rJ rJ rE rJ rO rO (fun v o => ?_) | (apply exlCopy; first | refine st_copyW _ rJ rE rK rE rD rJ rE rJ (fun zs hzs => ?_) | refine st_copyS _ rJ rJ rK rE rD rJ rE rJ rO rO (fun zs hzs => ?_)) | refine st_sliceB rJ rJ rJ rJ rJ rJ rJ rL rE rE rJ (fun g => ?_) | refine st_slice1I rJ rJ rJ rJ rJ rJ (fun g => ?_) | refine st_slice1B rJ rJ rJ rJ rJ rJ rO rO (fun g => ?_) | refine st_slice1S rJ rJ rJ rJ rJ rJ (fun g => ?_) | refine st_slice2B rJ rJ rJ rJ rJ rJ rJ rO rO rO rO (fun g => ?_) | (apply exlConv; first | refine st_bytes rJ rJ rJ rJ rJ rO (fun v o => ?_) | refine st_mark _ rJ rJ rK rJ rJ rJ ?_) | refine st_clear _ (0 : UInt8) rJ rK rJ rJ rJ rJ rJ rO ?_ | refine st_clearT _ rJ rK rO rJ rJ rO rE ?_ | (apply exlAppend; first | refine st_app0 rJ rJ rE rD rJ rE rJ rE rJ rJ rJ rO (fun v o => ?_) | refine st_app _ rJ rE rK rE rD rJ rE rJ rE rJ rJ rJ rO (fun v o => ?_) | refine st_shift _ rJ rJ rJ rK rO rJ rJ rJ rO rO rE ?_)) | (refine Ex.cond_d rJ (fun h => ?_) (fun h => ?_) <;> try (exfalso; omega))))
      refine st_storeB1 (xs := hv) (a := c.set ((l[i]'hlt).r % 5).toNat (c.get ((l[i]'hlt).r % 5).toNat + 1)) (o := ((l[i]'hlt).r % 5).toNat) 1 rJ rJ rJ rfl rJ rJ hR hR5 (by rw [hcc]; exact (Clk.cells_set c _ hR5 _).symm) rE ?_
      (repeat' (first | refine ExL.val rJ rJ rJ rV ?_ | (first | refine Ex.seq ?_ | refine Ex.region ?_ | refine ExL.nil ?_ | refine thn_n ?_ | refine Ex.cond_t rJ ?_ | refine Ex.cond_f rJ ?_ | refine Ex.skip ?_ | refine Ex.block ?_ | refine Ex.exit ?_ | refine Ex.ret ?_ | refine thn_exit ?_ | refine thn_ret ?_ | refine inb_n ?_ | refine inb_hit rJ ?_ | refine inb_miss rJ ?_ | refine inb_ret ?_ | refine rnd_exit ?_ | refine rnd_ret ?_ | refine meet_ret ?_ | refine meet_exit ?_) | (apply exlGuard; first | refine ExL.gskip rJ rJ rJ rJ rJ rJ ?_ | refine ExL.gtake rJ rJ rJ rJ ?_ | refine ExL.gskipU rJ rJ rJ rJ ?_ | (refine ExL.gsplit rJ rJ rJ (fun h => ?_) (fun h => ?_) <;> try (exfalso; omega))) | (first | refine st_new_ rJ rE (fun g => ?_) | refine st_boxA rJ rJ (fun g => ?_) | refine st_box1 rJ rE rN (fun g => ?_) | (apply exlStore; first | refine st_store1_ _ rJ rK rE rN rJ rJ rE rE ?_ | refine st_storeW_ _ rJ rK rJ rC rJ rJ rJ rE ?_ | refine st_storeR _ rJ rK rJ rE rJ rJ rE ?_ | refine st_storeA_ _ rJ rK rJ rC rJ rJ rJ rE rE ?_ | refine st_storeB _ rJ rJ rO rO rK rJ rO ?_ | refine st_storeG _ rJ rK rE rN rJ rO (fun cs hcs => ?_)) | refine st_slice0 rJ rJ rJ rJ (fun g => ?_) | refine st_slice1T rJ rJ rJ rJ (fun g => ?_) | refine st_makeT rJ rJ rJ rJ rE rJ rO rO (fun v o => ?_) | (apply exlCopy; first | refine st_copyW _ rJ rE rK rE rD rJ rE rJ (fun zs hzs => ?_) | refine st_copyS _ rJ rJ rK rE rD rJ rE rJ rO rO (fun zs hzs => ?_)) | refine st_sliceB rJ rJ rJ rJ rJ rJ rJ rL rE rE rJ (fun g => ?_) | refine st_slice1I rJ rJ rJ rJ rJ rJ (fun g => ?_) | refine st_slice1B rJ rJ rJ rJ rJ rJ rO rO (fun g => ?_) | refine st_slice1S rJ rJ rJ rJ rJ rJ (fun g => ?_) | refine st_slice2B rJ rJ rJ rJ rJ rJ rJ rO rO rO rO (fun g => ?_) | (apply exlConv; first | refine st_bytes rJ rJ rJ rJ rJ rO (fun v o => ?_) | refine st_mark _ rJ rJ rK rJ rJ rJ ?_) | refine st_clear _ (0 : UInt8) rJ rK rJ rJ rJ rJ rJ rO ?_ | refine st_clearT _ rJ rK rO rJ rJ rO rE ?_ | (apply exlAppend; first | refine st_app0 rJ rJ rE rD rJ rE rJ rE rJ rJ rJ rO (fun v o => ?_) | refine st_app _ rJ rE rK rE rD rJ rE rJ rE rJ rJ rJ rO (fun v o => ?_) | refine st_shift _ rJ rJ rJ rK rO rJ rJ rJ rO rO rE ?_)) | (refine Ex.cond_d rJ (fun h => ?_) (fun h => ?_) <;> try (exfalso; omega))))
      exact rnd_n ⟨l.length - (i + 1), _, by omega, rB, i + 1, v, _, by omega, rfl, hst.symm, by rw [← hst]; simpa using hk2, by assumption, lcons rfl (lcons (vint (by omega)) rfl), rfl⟩
    · rw [hsy, if_pos rfl] at hst
      (repeat' (first | refine ExL.val rJ rJ rJ rV ?_ | (first | refine Ex.seq ?_ | refine Ex.region ?_ | refine ExL.nil ?_ | refine thn_n ?_ | refine Ex.cond_t rJ ?_ | refine Ex.cond_f rJ ?_ | refine Ex.skip ?_ | refine Ex.block ?_ | refine Ex.exit ?_ | refine Ex.ret ?_ | refine thn_exit ?_ | refine thn_ret ?_ | refine inb_n ?_ | refine inb_hit rJ ?_ | refine inb_miss rJ ?_ | refine inb_ret ?_ | refine rnd_exit ?_ | refine rnd_ret ?_ | refine meet_ret ?_ | refine meet_exit ?_) | (apply exlGuard; first | refine ExL.gskip rJ rJ rJ rJ rJ rJ ?_ | refine ExL.gtake rJ rJ rJ rJ ?_ | refine ExL.gskipU rJ rJ rJ rJ ?_ | (refine ExL.gsplit rJ rJ rJ (fun h => ?_) (fun h => ?_) <;> try (exfalso; omega))) | (first | refine st_new_ rJ rE (fun g => ?_) | refine st_boxA rJ rJ (fun g => ?_) | refine st_box1 rJ rE rN (fun g => ?_) | (apply exlStore; first | refine st_store1_ _ rJ rK rE rN rJ rJ rE rE ?_ | refine st_storeW_ _ rJ rK rJ rC rJ rJ rJ rE ?_ | refine st_storeR _ rJ rK rJ rE rJ rJ rE ?_ | refine st_storeA_ _ rJ rK rJ rC rJ rJ rJ rE rE ?_ | refine st_storeB _ rJ rJ rO rO rK rJ rO ?_ | refine st_storeG _ rJ rK rE rN rJ rO (fun cs hcs => ?_)) | refine st_slice0 rJ rJ rJ rJ (fun g => ?_) | refine st_slice1T rJ rJ rJ rJ (fun g => ?_) | refine st_makeT rJ rJ rJ rJ rE rJ rO rO (fun v o => ?_) | (apply exlCopy; first | refine st_copyW _ rJ rE rK rE rD rJ rE rJ (fun zs hzs => ?_) | refine st_copyS _ rJ rJ rK rE rD rJ rE rJ rO rO (fun zs hzs => ?_)) | refine st_sliceB rJ rJ rJ rJ rJ rJ rJ rL rE rE rJ (fun g => ?_) | refine st_slice1I rJ rJ rJ rJ rJ rJ (fun g => ?_) | refine st_slice1B rJ rJ rJ rJ rJ rJ rO rO (fun g => ?_) | refine st_slice1S rJ rJ rJ rJ rJ rJ (fun g => ?_) | refine st_slice2B rJ rJ rJ rJ rJ rJ rJ rO rO rO rO (fun g => ?_) | (apply exlConv; first | refine st_bytes rJ rJ rJ rJ rJ rO (fun v o => ?_) | refine st_mark _ rJ rJ rK rJ rJ rJ ?_) | refine st_clear _ (0 : UInt8) rJ rK rJ rJ rJ rJ rJ rO ?_ | refine st_clearT _ rJ rK rO rJ rJ rO rE ?_ | (apply exlAppend; first | refine st_app0 rJ rJ rE rD rJ rE rJ rE rJ rJ rJ rO (fun v o => ?_) | refine st_app _ rJ rE rK rE rD rJ rE rJ rE rJ rJ rJ rO (fun v o => ?_) | refine st_shift _ rJ rJ rJ rK rO rJ rJ rJ rO rO rE ?_)) | (refine Ex.cond_d rJ (fun h => ?_) (fun h => ?_) <;> try (exfalso; omega))))
      (refine Ex.mixA 14 _ rfl (by kernel_rfl) (Fac.refl _) ?_; (repeat' (first | refine mx_val rJ rJ rJ rV ?_ | refine mx_nil ?_ | (first | refine mx_gskip rJ rJ rJ rJ ?_ | refine mx_gtake rJ rJ rJ ?_ | refine mx_gskipU rJ rJ rJ ?_) | (first | refine mx_slice1T rJ rJ rJ rJ (fun g => ?_) | refine mx_slice1I rJ rJ rJ rJ rJ rJ (fun g => ?_) | refine mx_slice1B rJ rJ rJ rJ rJ rJ rO rO (fun g => ?_) | refine mx_slice1S rJ rJ rJ rJ rJ rJ (fun g => ?_) | refine mx_slice2B rJ rJ rJ rJ rJ rJ rJ rO rO rO rO (fun g => ?_) | refine mx_alloc rJ rE (fun g => ?_) | refine mx_boxA rJ rJ (fun g => ?_) | refine mx_slice0 rJ rJ rJ rJ (fun g => ?_)) | (refine mx_gsplit rJ rJ rJ (fun h => ?_) (fun h => ?_) <;> try (exfalso; omega)) | (refine mx_act rJ rJ rJ ?_; (first | (apply exlCopy; first | refine st_copyW _ rJ rE rK rE rD rJ rE rJ (fun zs hzs => ?_) | refine st_copyS _ rJ rJ rK rE rD rJ rE rJ rO rO (fun zs hzs => ?_)) | (apply exlAppend; first | refine st_app0 rJ rJ rE rD rJ rE rJ rE rJ rJ rJ rO (fun v o => ?_) | refine st_app _ rJ rE rK rE rD rJ rE rJ rE rJ rJ rJ rO (fun v o => ?_) | refine st_shift _ rJ rJ rJ rK rO rJ rJ rJ rO rO rE ?_)); refine ExL.nil ?_; refine mxEnd_n rF ?_))))
      refine mx_val rJ rJ rJ (vl_loadBA (xs := hv) 1 rJ rJ rJ rJ rJ hR) ?_
      (repeat' (first | refine mx_val rJ rJ rJ rV ?_ | refine mx_nil ?_ | (first | refine mx_gskip rJ rJ rJ rJ ?_ | refine mx_gtake rJ rJ rJ ?_ | refine mx_gskipU rJ rJ rJ ?_) | (first | refine mx_slice1T rJ rJ rJ rJ (fun g => ?_) | refine mx_slice1I rJ rJ rJ rJ rJ rJ (fun g => ?_) | refine mx_slice1B rJ rJ rJ rJ rJ rJ rO rO (fun g => ?_) | refine mx_slice1S rJ rJ rJ rJ rJ rJ (fun g => ?_) | refine mx_slice2B rJ rJ rJ rJ rJ rJ rJ rO rO rO rO (fun g => ?_) | refine mx_alloc rJ rE (fun g => ?_) | refine mx_boxA rJ rJ (fun g => ?_) | refine mx_slice0 rJ rJ rJ rJ (fun g => ?_)) | (refine mx_gsplit rJ rJ rJ (fun h => ?_) (fun h => ?_) <;> try (exfalso; omega)) | (refine mx_act rJ rJ rJ ?_; (first | (apply exlCopy; first | refine st_copyW _ rJ rE rK rE rD rJ rE rJ (fun zs hzs => ?_) | refine st_copyS _ rJ rJ rK rE rD rJ rE rJ rO rO (fun zs hzs => ?_)) | (apply exlAppend; first | refine st_app0 rJ rJ rE rD rJ rE rJ rE rJ rJ rJ rO (fun v o => ?_) | refine st_app _ rJ rE rK rE rD rJ rE rJ rE rJ rJ rJ rO (fun v o => ?_) | refine st_shift _ rJ rJ rJ rK rO rJ rJ rJ rO rO rE ?_)); refine ExL.nil ?_; refine mxEnd_n rF ?_)))
      refine mx_val rJ rJ rJ (vl_loadBA (xs := hv) 1 rJ rJ rJ rJ rJ hF) ?_
      (repeat' (first | refine mx_val rJ rJ rJ rV ?_ | refine mx_nil ?_ | (first | refine mx_gskip rJ rJ rJ rJ ?_ | refine mx_gtake rJ rJ rJ ?_ | refine mx_gskipU rJ rJ rJ ?_) | (first | refine mx_slice1T rJ rJ rJ rJ (fun g => ?_) | refine mx_slice1I rJ rJ rJ rJ rJ rJ (fun g => ?_) | refine mx_slice1B rJ rJ rJ rJ rJ rJ rO rO (fun g => ?_) | refine mx_slice1S rJ rJ rJ rJ rJ rJ (fun g => ?_) | refine mx_slice2B rJ rJ rJ rJ rJ rJ rJ rO rO rO rO (fun g => ?_) | refine mx_alloc rJ rE (fun g => ?_) | refine mx_boxA rJ rJ (fun g => ?_) | refine mx_slice0 rJ rJ rJ rJ (fun g => ?_)) | (refine mx_gsplit rJ rJ rJ (fun h => ?_) (fun h => ?_) <;> try (exfalso; omega)) | (refine mx_act rJ rJ rJ ?_; (first | (apply exlCopy; first | refine st_copyW _ rJ rE rK rE rD rJ rE rJ (fun zs hzs => ?_) | refine st_copyS _ rJ rJ rK rE rD rJ rE rJ rO rO (fun zs hzs => ?_)) | (apply exlAppend; first | refine st_app0 rJ rJ rE rD rJ rE rJ rE rJ rJ rJ rO (fun v o => ?_) | refine st_app _ rJ rE rK rE rD rJ rE rJ rE rJ rJ rJ rO (fun v o => ?_) | refine st_shift _ rJ rJ rJ rK rO rJ rJ rJ rO rO rE ?_)); refine ExL.nil ?_; refine mxEnd_n rF ?_)))
      (refine mx_act rJ rJ rJ ?_; refine st_callIs [] rJ Try.call28 rE rJ (rjoin_F (hv[((l[i]'hlt).r % 5).toNat]'hR) (hv[((l[i]'hlt).from_ % 5).toNat]'hF) _) ?_)
      rintro _ _ ⟨rfl, rfl⟩
      (refine ExL.nil ?_; refine mxEnd_n rF ?_; (repeat' (first | refine mx_val rJ rJ rJ rV ?_ | refine mx_nil ?_ | (first | refine mx_gskip rJ rJ rJ rJ ?_ | refine mx_gtake rJ rJ rJ ?_ | refine mx_gskipU rJ rJ rJ ?_) | (first | refine mx_slice1T rJ rJ rJ rJ (fun g => ?_) | refine mx_slice1I rJ rJ rJ rJ rJ rJ (fun g => ?_) | refine mx_slice1B rJ rJ rJ rJ rJ rJ rO rO (fun g => ?_) | refine mx_slice1S rJ rJ rJ rJ rJ rJ (fun g => ?_) | refine mx_slice2B rJ rJ rJ rJ rJ rJ rJ rO rO rO rO (fun g => ?_) | refine mx_alloc rJ rE (fun g => ?_) | refine mx_boxA rJ rJ (fun g => ?_) | refine mx_slice0 rJ rJ rJ rJ (fun g => ?_)) | (refine mx_gsplit rJ rJ rJ (fun h => ?_) (fun h => ?_) <;> try (exfalso; omega)) | (refine mx_act rJ rJ rJ ?_; (first | (apply exlCopy; first | refine st_copyW _ rJ rE rK rE rD rJ rE rJ (fun zs hzs => ?_) | refine st_copyS _ rJ rJ rK rE rD rJ rE rJ rO rO (fun zs hzs => ?_)) | (apply exlAppend; first | refine st_app0 rJ rJ rE rD rJ rE rJ rE rJ rJ rJ rO (fun v o => ?_) | refine st_app _ rJ rE rK rE rD rJ rE rJ rE rJ rJ rJ rO (fun v o => ?_) | refine st_shift _ rJ rJ rJ rK rO rJ rJ rJ rO rO rE ?_)); refine ExL.nil ?_; refine mxEnd_n rF ?_))))
      (repeat' (first | refine ExL.val rJ rJ rJ rV ?_ | (first | refine Ex.seq ?_ | refine Ex.region ?_ | refine ExL.nil ?_ | refine thn_n ?_ | refine Ex.cond_t rJ ?_ | refine Ex.cond_f rJ ?_ | refine Ex.skip ?_ | refine Ex.block ?_ | refine Ex.exit ?_ | refine Ex.ret ?_ | refine thn_exit ?_ | refine thn_ret ?_ | refine inb_n ?_ | refine inb_hit rJ ?_ | refine inb_miss rJ ?_ | refine inb_ret ?_ | refine rnd_exit ?_ | refine rnd_ret ?_ | refine meet_ret ?_ | refine meet_exit ?_) | (apply exlGuard; first | refine ExL.gskip rJ rJ rJ rJ rJ rJ ?_ | refine ExL.gtake rJ rJ rJ rJ ?_ | refine ExL.gskipU rJ rJ rJ rJ ?_ | (refine ExL.gsplit rJ rJ rJ (fun h => ?_) (fun h => ?_) <;> try (exfalso; omega))) | (first | refine st_new_ rJ rE (fun g => ?_) | refine st_boxA rJ rJ (fun g => ?_) | refine st_box1 rJ rE rN (fun g => ?_) | (apply exlStore; first | refine st_store1_ _ rJ rK rE rN rJ rJ rE rE ?_ | refine st_storeW_ _ rJ rK rJ rC rJ rJ rJ rE ?_ | refine st_storeR _ rJ rK rJ rE rJ rJ rE ?_ | refine st_storeA_ _ rJ rK rJ rC rJ rJ rJ rE rE ?_ | refine st_storeB _ rJ rJ rO rO rK rJ rO ?_ | refine st_storeG _ rJ rK rE rN rJ rO (fun cs hcs => ?_)) | refine st_slice0 rJ rJ rJ rJ (fun g => ?_) | refine st_slice1T rJ rJ rJ rJ (fun g => ?_) | refine st_makeT rJ rJ rJ rJ rE rJ rO rO (fun v o => ?_) | (apply exlCopy; first | refine st_copyW _ rJ rE rK rE rD rJ rE rJ (fun zs hzs => ?_) | refine st_copyS _ rJ rJ rK rE rD rJ rE rJ rO rO (fun zs hzs => ?_)) | refine st_sliceB rJ rJ rJ rJ rJ rJ rJ rL rE rE rJ (fun g => ?_) | refine st_slice1I rJ rJ rJ rJ rJ rJ (fun g => ?_) | refine st_slice1B rJ rJ rJ rJ rJ rJ rO rO (fun g => ?_) | refine st_slice1S rJ rJ rJ rJ rJ rJ (fun g => ?_) | refine st_slice2B rJ rJ rJ rJ rJ rJ rJ rO rO rO rO (fun g => ?_) | (apply exlConv; first | refine st_bytes rJ rJ rJ rJ rJ rO (fun v o => ?_) | refine st_mark _ rJ rJ rK rJ rJ rJ ?_) | refine st_clear _ (0 : UInt8) rJ rK rJ rJ rJ rJ rJ rO ?_ | refine st_clearT _ rJ rK rO rJ rJ rO rE ?_ | (apply exlAppend; first | refine st_app0 rJ rJ rE rD rJ rE rJ rE rJ rJ rJ rO (fun v o => ?_) | refine st_app _ rJ rE rK rE rD rJ rE rJ rE rJ rJ rJ rO (fun v o => ?_) | refine st_shift _ rJ rJ rJ rK rO rJ rJ rJ rO rO rE ?_)) | (refine Ex.cond_d rJ (fun h => ?_) (fun h => ?_) <;> try (exfalso; omega))))
      refine st_storeBA (xs := hv) 1 rJ rJ rJ rJ rJ hR rE ?_
      (repeat' (first | refine ExL.val rJ rJ rJ rV ?_ | (first | refine Ex.seq ?_ | refine Ex.region ?_ | refine ExL.nil ?_ | refine thn_n ?_ | refine Ex.cond_t rJ ?_ | refine Ex.cond_f rJ ?_ | refine Ex.skip ?_ | refine Ex.block ?_ | refine Ex.exit ?_ | refine Ex.ret ?_ | refine thn_exit ?_ | refine thn_ret ?_ | refine inb_n ?_ | refine inb_hit rJ ?_ | refine inb_miss rJ ?_ | refine inb_ret ?_ | refine rnd_exit ?_ | refine rnd_ret ?_ | refine meet_ret ?_ | refine meet_exit ?_) | (apply exlGuard; first | refine ExL.gskip rJ rJ rJ rJ rJ rJ ?_ | refine ExL.gtake rJ rJ rJ rJ ?_ | refine ExL.gskipU rJ rJ rJ rJ ?_ | (refine ExL.gsplit rJ rJ rJ (fun h => ?_) (fun h => ?_) <;> try (exfalso; omega))) | (first | refine st_new_ rJ rE (fun g => ?_) | refine st_boxA rJ rJ (fun g => ?_) | refine st_box1 rJ rE rN (fun g => ?_) | (apply exlStore; first | refine st_store1_ _ rJ rK rE rN rJ rJ rE rE ?_ | refine st_storeW_ _ rJ rK rJ rC rJ rJ rJ rE ?_ | refine st_storeR _ rJ rK rJ rE rJ rJ rE ?_ | refine st_storeA_ _ rJ rK rJ rC rJ rJ rJ rE rE ?_ | refine st_storeB _ rJ rJ rO rO rK rJ rO ?_ | refine st_storeG _ rJ rK rE rN rJ rO (fun cs hcs => ?_)) | refine st_slice0 rJ rJ rJ rJ (fun g => ?_) | refine st_slice1T rJ rJ rJ rJ (fun g => ?_) | refine st_makeT rJ rJ rJ rJ rE rJ rO rO (fun v o => ?_) | (apply exlCopy; first | refine st_copyW _ rJ rE rK rE rD rJ rE rJ (fun zs hzs => ?_) | refine st_copyS _ rJ rJ rK rE rD rJ rE rJ rO rO (fun zs hzs => ?_)) | refine st_sliceB rJ rJ rJ rJ rJ rJ rJ rL rE rE rJ (fun g => ?_) | refine st_slice1I rJ rJ rJ rJ rJ rJ (fun g => ?_) | refine st_slice1B rJ rJ rJ rJ rJ rJ rO rO (fun g => ?_) | refine st_slice1S rJ rJ rJ rJ rJ rJ (fun g => ?_) | refine st_slice2B rJ rJ rJ rJ rJ rJ rJ rO rO rO rO (fun g => ?_) | (apply exlConv; first | refine st_bytes rJ rJ rJ rJ rJ rO (fun v o => ?_) | refine st_mark _ rJ rJ rK rJ rJ rJ ?_) | refine st_clear _ (0 : UInt8) rJ rK rJ rJ rJ rJ rJ rO ?_ | refine st_clearT _ rJ rK rO rJ rJ rO rE ?_ | (apply exlAppend; first | refine st_app0 rJ rJ rE rD rJ rE rJ rE rJ rJ rJ rO (fun v o => ?_) | refine st_app _ rJ rE rK rE rD rJ rE rJ rE rJ rJ rJ rO (fun v o => ?_) | refine st_shift _ rJ rJ rJ rK rO rJ rJ rJ rO rO rE ?_)) | (refine Ex.cond_d rJ (fun h => ?_) (fun h => ?_) <;> try (exfalso; omega))))
      exact rnd_n ⟨l.length - (i + 1), _, by omega, rB, i + 1, v3, _, by omega, rfl, hst.symm, by rw [← hst]; simpa using hk2, o3, lcons rfl (lcons (vint (by omega)) rfl), rfl⟩
  · obtain rfl : i = l.length := by omega
    rw [List.take_length] at hs
    have : out = makeP l := by unfold makeP; rw [← hs]
    subst this
    (repeat' (first | refine ExL.val rJ rJ rJ rV ?_ | (first | refine Ex.seq ?_ | refine Ex.region ?_ | refine ExL.nil ?_ | refine thn_n ?_ | refine Ex.cond_t rJ ?_ | refine Ex.cond_f rJ ?_ | refine Ex.skip ?_ | refine Ex.block ?_ | refine Ex.exit ?_ | refine Ex.ret ?_ | refine thn_exit ?_ | refine thn_ret ?_ | refine inb_n ?_ | refine inb_hit rJ ?_ | refine inb_miss rJ ?_ | refine inb_ret ?_ | refine rnd_exit ?_ | refine rnd_ret ?_ | refine meet_ret ?_ | refine meet_exit ?_) | (apply exlGuard; first | refine ExL.gskip rJ rJ rJ rJ rJ rJ ?_ | refine ExL.gtake rJ rJ rJ rJ ?_ | refine ExL.gskipU rJ rJ rJ rJ ?_ | (refine ExL.gsplit rJ rJ rJ (fun h => ?_) (fun h => ?_) <;> try (exfalso; omega))) | (first | refine st_new_ rJ rE (fun g => ?_) | refine st_boxA rJ rJ (fun g => ?_) | refine st_box1 rJ rE rN (fun g => ?_) | (apply exlStore; first | refine st_store1_ _ rJ rK rE rN rJ rJ rE rE ?_ | refine st_storeW_ _ rJ rK rJ rC rJ rJ rJ rE ?_ | refine st_storeR _ rJ rK rJ rE rJ rJ rE ?_ | refine st_storeA_ _ rJ rK rJ rC rJ rJ rJ rE rE ?_ | refine st_storeB _ rJ rJ rO rO rK rJ rO ?_ | refine st_storeG _ rJ rK rE rN rJ rO (fun cs hcs => ?_)) | refine st_slice0 rJ rJ rJ rJ (fun g => ?_) | refine st_slice1T rJ rJ rJ rJ (fun g => ?_) | refine st_makeT rJ rJ rJ rJ rE rJ rO rO (fun v o => ?_) | (apply exlCopy; first | refine st_copyW _ rJ rE rK rE rD rJ rE rJ (fun zs hzs => ?_) | refine st_copyS _ rJ rJ rK rE rD rJ rE rJ rO rO (fun zs hzs => ?_)) | refine st_sliceB rJ rJ rJ rJ rJ rJ rJ rL rE rE rJ (fun g => ?_) | refine st_slice1I rJ rJ rJ rJ rJ rJ (fun g => ?_) | refine st_slice1B rJ rJ rJ rJ rJ rJ rO rO (fun g => ?_) | refine st_slice1S rJ rJ rJ rJ rJ rJ (fun g => ?_) | refine st_slice2B rJ rJ rJ rJ rJ rJ rJ rO rO rO rO (fun g => ?_) | (apply exlConv; first | refine st_bytes rJ rJ rJ rJ rJ rO (fun v o => ?_) | refine st_mark _ rJ rJ rK rJ rJ rJ ?_) | refine st_clear _ (0 : UInt8) rJ rK rJ rJ rJ rJ rJ rO ?_ | refine st_clearT _ rJ rK rO rJ rJ rO rE ?_ | (apply exlAppend; first | refine st_app0 rJ rJ rE rD rJ rE rJ rE rJ rJ rJ rO (fun v o => ?_) | refine st_app _ rJ rE rK rE rD rJ rE rJ rE rJ rJ rJ rO (fun v o => ?_) | refine st_shift _ rJ rJ rJ rK rO rJ rJ rJ rO rO rE ?_)) | (refine Ex.cond_d rJ (fun h => ?_) (fun h => ?_) <;> try (exfalso; omega))))
    (first | refine fin_ret rS ?_ | refine fin_norm rS ?_)
    exact ⟨_, rB, o3, rfl⟩
end Go.Proofs.Ytcclbplccnaonaa
/- Marks as the keys of maps. No condition. -/
namespace Go.Proofs.Ytcclbplccnaonaa
open Go.RowKit
set_option linter.unusedSimpArgs false
set_option linter.unusedVariables false
set_option maxRecDepth 20000
instance : KeyT Try.prog 60 Mk where
  depth := 3
  ls := [.i .i64, .i .i64]
  small := rfl
  leaves := by kernel_rfl
  agg := by kernel_rfl
  guard := by kernel_rfl
  ok := fun _ => rfl
  inj := fun a b h => by
    obtain ⟨a1, a2⟩ := a
    obtain ⟨b1, b2⟩ := b
    simp only [Rep.cells, List.cons.injEq, Value.int.injEq, true_and, and_true] at h
    simp [h]
  check := fun w em a => check_2int (e := 3) Try.underlying60 ⟨rfl, rfl, by decide⟩ ⟨rfl, rfl, by decide⟩ (by kernel_rfl) w em a.r a.n
end Go.Proofs.Ytcclbplccnaonaa
/- Maps of any one-word or structured values: looked up with and without 'ok', written at a key that is there or not. No condition. -/
namespace Go.Proofs.Ytcclbplccnaonaa
open Go.RowKit
set_option linter.unusedSimpArgs false
set_option linter.unusedVariables false
def mposV {κ : Type} [DecidableEq κ] (k : κ) : List (κ × Value) → Nat → Option (Nat × Value)
  | [], _ => none
  | p :: m, i => if k = p.1 then some (i, p.2) else mposV k m (i + 1)
/-- Keys, as values. -/
class KeyV (P : outParam Program) (kt : TypeId) (κ : outParam Type) [DecidableEq κ] where
  kv : κ → Value
  check : ∀ (w : World) (em : Bool) (a : κ), (Instr.checkKey em 10000 kt (kv a)).run P w = .ok () w
  stays : ∀ (w : World) (k : κ), (Instr.keyThatStays (kv k) (kv k)).run P w = .ok (kv k) w
  find : ∀ (w : World) (k : κ) (es : List MapEntry) (m : List (κ × Value)), es.map (fun e => (e.key, e.val)) = m.map (fun p => (kv p.1, p.2)) → (Instr.findKey kt (kv k) es).run P w = .ok (mposV k m 0) w
def MapV {κ : Type} (kv : κ → Value) (g : Nat) (m : List (κ × Value)) : Assn := fun h => ∃ es clock, h = Frag.one g (.map es clock) ∧ es.toList.map (fun e => (e.key, e.val)) = m.map fun p => (kv p.1, p.2)
def mput {κ : Type} [DecidableEq κ] (k : κ) (v : Value) (m : List (κ × Value)) : List (κ × Value) := match mposV k m 0 with | some q => m.set q.1 (k, v) | none => m ++ [(k, v)]
theorem run_askingV {P : Program} {kt : TypeId} {κ : Type} [Rep κ] [K : KeyT P kt κ] [DecidableEq κ] (k : κ) (w : World) : ∀ (es : List MapEntry) (m : List (κ × Value)) (i : Nat), es.map (fun e => (e.key, e.val)) = m.map (fun p => (aggV p.1, p.2)) →
    (Instr.findAsking kt (aggV k) es i).run P w = .ok (mposV k m i) w
  | [], [], i, _ => by simp [Instr.findAsking, mposV]
  | e :: es, p :: m, i, h => by
    simp only [List.map_cons, List.cons.injEq, Prod.mk.injEq] at h
    obtain ⟨⟨h1, h2⟩, h3⟩ := h
    have he := run_eqT (P := P) (t := kt) k p.1 w
    unfold Instr.findAsking
    rw [h1]
    by_cases hk : k = p.1
    · rw [decide_eq_true hk] at he
      rw [show mposV k (p :: m) i = some (i, p.2) from if_pos hk]
      simp [he, h2]
    · rw [decide_eq_false hk] at he
      rw [show mposV k (p :: m) i = mposV k m (i + 1) from if_neg hk]
      simp [he, run_askingV k w es m (i + 1) h3]
  | [], _ :: _, _, h => by simp at h
  | _ :: _, [], _, h => by simp at h
/-- Structs as keys. -/
@[reducible] def KeyV.ofT {P : Program} {kt : TypeId} {κ : Type} [Rep κ] [K : KeyT P kt κ] [DecidableEq κ] : KeyV P kt κ where
  kv := aggV
  check := fun w em a => K.check w em a
  stays := fun w k => run_stays (P := P) (kt := kt) k w
  find := fun w k es m h => by
    have ha := K.agg
    unfold aggB at ha
    cases hu : P.underlying kt with
    | none => rw [hu] at ha; cases ha
    | some d =>
      rw [hu] at ha
      match es, m, h with
      | [], [], _ => simp [Instr.findKey, run_underlying hu, Instr.findNow, mposV]
      | e :: es, p :: m, h =>
        have hr := run_askingV (P := P) (kt := kt) k w (e :: es) (p :: m) 0 h
        have hn : Instr.findNow d (aggV k) (e :: es) 0 = none := by
          cases d <;> simp at ha <;> simp [Instr.findNow, Instr.sameNow]
        simp only [Instr.findKey, Sem.run_bind, run_underlying hu, Result.andThen_ok, hn, hr]
      | [], _ :: _, h => simp at h
      | _ :: _, [], h => simp at h
theorem mposV_spec {κ : Type} [DecidableEq κ] (k : κ) : ∀ (m : List (κ × Value)) (s : Nat), (mposV k m s = none ∧ ∀ p ∈ m, p.1 ≠ k) ∨ ∃ i, ∃ h : i < m.length, (m[i]'h).1 = k ∧ mposV k m s = some (s + i, (m[i]'h).2)
  | [], s => .inl ⟨rfl, by simp⟩
  | p :: m, s => by
    by_cases hk : k = p.1
    · exact .inr ⟨0, by simp, hk.symm, if_pos hk⟩
    · rcases mposV_spec k m (s + 1) with ⟨h1, h2⟩ | ⟨i, hi, h1, h2⟩
      · refine .inl ⟨(if_neg hk).trans h1, fun x hx => ?_⟩
        rcases List.mem_cons.1 hx with rfl | hx
        · exact fun h => hk h.symm
        · exact h2 x hx
      · refine .inr ⟨i + 1, by simp; omega, by simpa using h1, (if_neg hk).trans ?_⟩
        rw [h2]
        simp; omega
section
variable {κ : Type} {kv : κ → Value} {L : List Assn} {F : Frag} {w : World}
theorem mapV_heap {i g : Nat} {m : List (κ × Value)} (hi : L[i]? = some (MapV kv g m)) (s : Sats w L F) : ∃ es clock, w.heap[g]? = some (.map es clock) ∧ es.toList.map (fun e => (e.key, e.val)) = m.map fun p => (kv p.1, p.2) := by
  obtain ⟨h, ⟨es, clock, rfl, he⟩, d, s'⟩ := Sats.pick hi s
  exact ⟨es, clock, Sats.frame_left s' g _ (Frag.one_self g _), he⟩
theorem mapV_set {i g : Nat} {m m' : List (κ × Value)} {es es' : Array MapEntry} {clock clock' : Nat} (hi : L[i]? = some (MapV kv g m)) (hg : w.heap[g]? = some (.map es clock)) (he : es'.toList.map (fun e => (e.key, e.val)) = m'.map fun p => (kv p.1, p.2)) (s : Sats w L F) :
    Sats { w with heap := w.heap.setIfInBounds g (.map es' clock') } (L.set i (MapV kv g m')) F := by
  obtain ⟨h, ⟨es0, clock0, rfl, _⟩, d, s'⟩ := Sats.pick hi s
  have hlt : g < w.heap.size := (Array.getElem?_eq_some_iff.1 hg).1
  refine Sats.rewrite (o' := .map es' clock') (List.getElem?_eq_some_iff.1 hi).1 d s' ⟨es', clock', rfl, he⟩ (fun n hn => ?_) ?_
  · show (w.heap.setIfInBounds g _)[n]? = _
    rw [Array.getElem?_setIfInBounds_ne (Ne.symm hn)]
  · show (w.heap.setIfInBounds g _)[g]? = _
    simp [hlt]
end
section
variable {P : Program} {n : Nat} {ops : Array Oper} {Q : Post} {f : Nat → Value} {L : List Assn} {rest : List Oper} {d : Nat} {ty : TypeId} {pos : String} {af : Array Edge} {gd : Option (Nat × Bool)}
theorem st_makeMapV {κ : Type} (kv : κ → Value) {t : TypeId} (hd : Nat.blt d n = true) (h : ∀ g, ExL P n ops rest Q (upd f d (.map (some g))) (MapV kv g [] :: L)) : ExL P n ops (⟨some d, .makeMap t none, ty, pos, af, none⟩ :: rest) Q f L := by
  refine ExL.eff rfl hd (R := fun v L' => ∃ g, v = .map (some g) ∧ L' = MapV kv g [] :: L) (fun F w s => ?_) ?_
  · refine ⟨_, w.alloc (.map #[] 0), _, .inl (by simp [execOp, Instr.makeMap]), Rest.alloc (Rest.refl w) _, Sats.alloc _ s (A := MapV kv w.heap.size []) ⟨#[], 0, rfl, rfl⟩, w.heap.size, rfl, rfl⟩
  · rintro v L' ⟨g, rfl, rfl⟩
    exact h g
variable {κ : Type} [DecidableEq κ] {t kt et : TypeId} [K : KeyV P kt κ]
theorem run_lookupV {i g : Nat} {m : List (κ × Value)} {k : κ} {z : Value} {w : World} {F : Frag} (ok : Bool) (ht : P.underlying t = some (.map kt et)) (hz : ((P.info? et).bind (·.zero)) = some z) (hi : L[i]? = some (MapV K.kv g m)) (s : Sats w L F) :
    (Instr.lookup t (.map (some g)) (K.kv k) ok).run P w = .ok (if ok then .tuple #[match mposV k m 0 with | some q => q.2 | none => z, .bool (mposV k m 0).isSome] else match mposV k m 0 with | some q => q.2 | none => z) w := by
  obtain ⟨es, clock, hg, he⟩ := mapV_heap hi s
  have hf := K.find w k es.toList m he
  have hc := K.check w es.isEmpty k
  have hzv : (zeroValue et).run P w = .ok z w := by
    cases hii : P.info? et with
    | none => rw [hii] at hz; cases hz
    | some inf =>
      rw [hii] at hz
      have hz : inf.zero = some z := hz
      simp [zeroValue, typeInfo, hii, hz]
  cases hp : mposV k m 0 with
  | none =>
    rw [hp] at hf
    cases ok <;> simp [Instr.lookup, run_underlying ht, MapKept.run_getObj_map hg, hc, hf, hzv]
  | some q =>
    rw [hp] at hf
    cases ok <;> simp [Instr.lookup, run_underlying ht, MapKept.run_getObj_map hg, hc, hf]
/-- m[k] -/
theorem vl_lookup1 (i : Nat) {x y : Operand} {g : Nat} {m : List (κ × Value)} {k : κ} {z : Value} (hx : evalF f x = .map (some g)) (hy : evalF f y = K.kv k) (hi : L[i]? = some (MapV K.kv g m)) (ht : P.underlying t = some (.map kt et)) (hz : ((P.info? et).bind (·.zero)) = some z) :
    Val P ⟨some d, .lookup t x y false, ty, pos, af, gd⟩ f L (match mposV k m 0 with | some q => q.2 | none => z) := fun F w s => by
  have := run_lookupV (P := P) (k := k) false ht hz hi s
  simp only [Bool.false_eq_true, if_false] at this
  simp [execOp, hx, hy, this]
/-- v, ok := m[k] -/
theorem vl_lookup2 (i : Nat) {x y : Operand} {g : Nat} {m : List (κ × Value)} {k : κ} {z : Value} (hx : evalF f x = .map (some g)) (hy : evalF f y = K.kv k) (hi : L[i]? = some (MapV K.kv g m)) (ht : P.underlying t = some (.map kt et)) (hz : ((P.info? et).bind (·.zero)) = some z) :
    Val P ⟨some d, .lookup t x y true, ty, pos, af, gd⟩ f L (.tuple #[match mposV k m 0 with | some q => q.2 | none => z, .bool (mposV k m 0).isSome]) := fun F w s => by
  have := run_lookupV (P := P) (k := k) true ht hz hi s
  simp only [if_true] at this
  simp [execOp, hx, hy, this]
theorem list_set_map {α β : Type} (φ : α → β) : ∀ (l : List α) (i : Nat) (a : α), (l.set i a).map φ = (l.map φ).set i (φ a)
  | [], _, _ => rfl
  | _ :: _, 0, _ => rfl
  | b :: l, i + 1, a => by simp [list_set_map φ l i a]
theorem map_modify (es : Array MapEntry) (i : Nat) (key v : Value) : ((es.modify i fun e => { e with key := key, val := v }).toList.map fun e => (e.key, e.val)) = (es.toList.map fun e => (e.key, e.val)).set i (key, v) := by
  apply List.ext_getElem?
  intro j
  simp only [List.getElem?_map, Array.getElem?_toList, Array.getElem?_modify, List.getElem?_set, List.length_map, Array.length_toList]
  by_cases hij : i = j
  · subst hij
    simp only [if_true]
    by_cases hl : i < es.size
    · simp [hl]
    · simp [hl]
  · simp [hij]
/-- m[k] = v -/
theorem st_mapPut (i : Nat) {kv : κ → Value} (hkv : K.kv = kv) {x y z : Operand} {g : Nat} {m : List (κ × Value)} {k : κ} {v : Value} (hx : evalF f x = .map (some g)) (hy : evalF f y = K.kv k) (hz : evalF f z = v) (hi : L[i]? = some (MapV kv g m)) (ht : P.underlying t = some (.map kt et))
    {L' : List Assn} (hL : L.set i (MapV kv g (mput k v m)) = L') (h : ExL P n ops rest Q f L') : ExL P n ops (⟨none, .mapUpdate t x y z, ty, pos, af, none⟩ :: rest) Q f L := by
  subst hL
  subst hkv
  refine ExL.eff rfl rfl (R := fun _ L2 => L2 = L.set i (MapV K.kv g (mput k v m))) (fun F w s => ?_) (fun v L2 e => by subst e; exact h)
  obtain ⟨es, clock, hg, he⟩ := mapV_heap hi s
  have hf := K.find w k es.toList m he
  have hc := K.check w false k
  rcases mposV_spec k m 0 with ⟨hp, _⟩ | ⟨j, hj, hjk, hp⟩
  · rw [hp] at hf
    have hm : mput k v m = m ++ [(k, v)] := by unfold mput; rw [hp]
    refine ⟨undef, _, _, .inr ⟨?_, rfl⟩, ?_, mapV_set (es' := es.push { key := K.kv k, val := v, born := clock }) (clock' := clock + 1) hi hg (by rw [hm]; simp [he]) s, rfl⟩
    · simp [execOp, hx, hy, hz, Instr.mapUpdate, run_underlying ht, MapKept.run_getObj_map hg, hc, hf, MapKept.run_setObj_map _ hg]
    · exact ⟨rfl, rfl, rfl⟩
  · rw [hp, Nat.zero_add] at hf
    have hm : mput k v m = m.set j (k, v) := by unfold mput; rw [hp]; simp
    have hjl : j < es.size := by
      have := congrArg List.length he
      simp at this
      omega
    have hkey : (es[j]'hjl).key = K.kv k := by
      have h2 := congrArg (fun l => l[j]?) he
      simp only [List.getElem?_map, Array.getElem?_toList] at h2
      rw [Array.getElem?_eq_getElem hjl, List.getElem?_eq_getElem hj] at h2
      simp only [Option.map_some, Option.some.injEq, Prod.mk.injEq] at h2
      rw [h2.1, hjk]
    have hst := K.stays w k
    refine ⟨undef, _, _, .inr ⟨?_, rfl⟩, ?_, mapV_set (es' := es.modify j fun e => { e with key := K.kv k, val := v }) (clock' := clock) hi hg (by rw [hm, map_modify, he, list_set_map]) s, rfl⟩
    · simp [execOp, hx, hy, hz, Instr.mapUpdate, run_underlying ht, MapKept.run_getObj_map hg, hc, hf, MapKept.run_setObj_map _ hg, hjl, hkey, hst]
    · exact ⟨rfl, rfl, rfl⟩
end
/-- A set: each key with true. -/
def setM {κ : Type} (ks : List κ) : List (κ × Value) := ks.map fun k => (k, .bool true)
theorem setM_look {κ : Type} [DecidableEq κ] (k : κ) (ks : List κ) : (match mposV k (setM ks) 0 with | some q => q.2 | none => Value.bool false) = .bool (decide (k ∈ ks)) := by
  rcases mposV_spec k (setM ks) 0 with ⟨hp, h⟩ | ⟨j, hj, hjk, hp⟩
  · rw [hp]
    rw [decide_eq_false]
    intro hk
    exact h (k, .bool true) (List.mem_map.2 ⟨k, hk, rfl⟩) rfl
  · rw [hp]
    have hj' : j < ks.length := by simpa [setM] using hj
    have : (setM ks)[j]'hj = (ks[j]'hj', .bool true) := by simp [setM]
    rw [this] at hjk ⊢
    rw [decide_eq_true]
    simp only at hjk
    rw [← hjk]
    exact List.getElem_mem _
theorem setM_put {κ : Type} [DecidableEq κ] (k : κ) (ks : List κ) : mput k (.bool true) (setM ks) = setM (if k ∈ ks then ks else ks ++ [k]) := by
  unfold mput
  rcases mposV_spec k (setM ks) 0 with ⟨hp, h⟩ | ⟨j, hj, hjk, hp⟩
  · rw [hp, if_neg]
    · simp [setM]
    · intro hk
      exact h (k, .bool true) (List.mem_map.2 ⟨k, hk, rfl⟩) rfl
  · rw [hp]
    have hj' : j < ks.length := by simpa [setM] using hj
    have he : (setM ks)[j]'hj = (ks[j]'hj', .bool true) := by simp [setM]
    rw [he] at hjk
    simp only at hjk
    rw [if_pos (by rw [← hjk]; exact List.getElem_mem _)]
    simp only [Nat.zero_add]
    have : (k, Value.bool true) = (setM ks)[j]'hj := by rw [he, hjk]
    rw [this, List.set_getElem_self]
end Go.Proofs.Ytcclbplccnaonaa
