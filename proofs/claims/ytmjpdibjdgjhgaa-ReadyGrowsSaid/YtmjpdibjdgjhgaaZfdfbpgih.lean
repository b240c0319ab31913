/- Several texts, one behind the other; each says in its head what it proves. No condition. -/
import Derived.Test.YtmjpdibjdgjhgaaZebankafo
import Derived.Test.YtmjpdibjdgjhgaaZpkcmplna
import Derived.Test.YtmjpdibjdgjhgaaZelpbgfkl
/- kithref08.Make, walked. No condition. -/
namespace Go.Proofs.Ytmjpdibjdgjhgaa
open Go.RowKit
set_option linter.unusedSimpArgs false
set_option linter.unusedVariables false
@[reducible] def StM (g4 : Nat) (v3 : Value) (out : List Ev) (hv : List Clk) (M : List Assn) : List Assn := Evs_ v3 out :: Blk g4 74 (cellsOf hv) :: M
theorem Clk.cells_get (c : Clk) (i : Nat) (h : i < 5) : (Rep.cells c)[i]? = some (.int .i64 (c.get i)) := by
  match i, h with
  | 0, _ => rfl
  | 1, _ => rfl
  | 2, _ => rfl
  | 3, _ => rfl
  | 4, _ => rfl
theorem zero5 : cellsOf (List.replicate 5 Clk.zero) = List.replicate 25 (.int .i64 0) := rfl
set_option maxRecDepth 20000 attribute [local irreducible] Ex ExL Fn thn inb rnd fin meet Tab Mix mxEnd Val Sats RdT Rd RowT Row Blk Sub Fac ResV RVal Evs subs subs3 Hid Capd
set_option maxHeartbeats 8000000 in
theorem makePast_F (va : Value) (l : List Ch) (M : List Assn) (hr : RdT M va l) (hl : l.length ≤ 100000) (hok : ∀ c ∈ l, c.Ok) : Fn Try.prog 20 #[va] M fun v L' => v.oneCell' = true ∧ L' = Evs_ v (makeP l) :: M := by
  refine Fn.of_ex Try.func20 rfl Try.ntmps20 rfl ?_
  (repeat' (first | refine ExL.val rJ rJ rJ rV ?_ | (first | refine Ex.seq ?_ | refine Ex.region ?_ | refine ExL.nil ?_ | refine thn_n ?_ | refine Ex.cond_t rJ ?_ | refine Ex.cond_f rJ ?_ | refine Ex.skip ?_ | refine Ex.block ?_ | refine Ex.exit ?_ | refine Ex.ret ?_ | refine thn_exit ?_ | refine thn_ret ?_ | refine inb_n ?_ | refine inb_hit rJ ?_ | refine inb_miss rJ ?_ | refine inb_ret ?_ | refine rnd_exit ?_ | refine rnd_ret ?_ | refine meet_ret ?_ | refine meet_exit ?_) | (apply exlGuard; first | refine ExL.gskip rJ rJ rJ rJ rJ rJ ?_ | refine ExL.gtake rJ rJ rJ rJ ?_ | refine ExL.gskipU rJ rJ rJ rJ ?_ | (refine ExL.gsplit rJ rJ rJ (fun h => ?_) (fun h => ?_) <;> try (exfalso; omega))) | (first | refine st_new_ rJ rE (fun g => ?_) | refine st_boxA rJ rJ (fun g => ?_) | refine st_box1 rJ rE rN (fun g => ?_) | (apply exlStore; first | refine st_store1_ _ rJ rK rE rN rJ rJ rE rE ?_ | refine st_storeW_ _ rJ rK rJ rC rJ rJ rJ rE ?_ | refine st_storeR _ rJ rK rJ rE rJ rJ rE ?_ | refine st_storeA_ _ rJ rK rJ rC rJ rJ rJ rE rE ?_ | refine st_storeB _ rJ rJ rO rO rK rJ rO ?_ | refine st_storeG _ rJ rK rE rN rJ rO (fun cs hcs => ?_)) | refine st_slice0 rJ rJ rJ rJ (fun g => ?_) | refine st_slice1T rJ rJ rJ rJ (fun g => ?_) | refine st_makeT rJ rJ rJ rJ rE rJ rO rO (fun v o => ?_) | (apply exlCopy; first | refine st_copyW _ rJ rE rK rE rD rJ rE rJ (fun zs hzs => ?_) | refine st_copyS _ rJ rJ rK rE rD rJ rE rJ rO rO (fun zs hzs => ?_)) | refine st_sliceB rJ rJ rJ rJ rJ rJ rJ rL rE rE rJ (fun g => ?_) | refine st_slice1I rJ rJ rJ rJ rJ rJ (fun g => ?_) | refine st_slice1B rJ rJ rJ rJ rJ rJ rO rO (fun g => ?_) | refine st_slice1S rJ rJ rJ rJ rJ rJ (fun g => ?_) | refine st_slice2B rJ rJ rJ rJ rJ rJ rJ rO rO rO rO (fun g => ?_) | (apply exlConv; first | refine st_bytes rJ rJ rJ rJ rJ rO (fun v o => ?_) | refine st_mark _ rJ rJ rK rJ rJ rJ ?_) | refine st_clear _ (0 : UInt8) rJ rK rJ rJ rJ rJ rJ rO ?_ | refine st_clearT _ rJ rK rO rJ rJ rO rE ?_ | (apply exlAppend; first | refine st_app0 rJ rJ rE rD rJ rE rJ rE rJ rJ rJ rO (fun v o => ?_) | refine st_app _ rJ rE rK rE rD rJ rE rJ rE rJ rJ rJ rO (fun v o => ?_) | refine st_shift _ rJ rJ rJ rK rO rJ rJ rJ rO rO rE ?_)) | (refine Ex.cond_d rJ (fun h => ?_) (fun h => ?_) <;> try (exfalso; omega))))
  revert g
  intro g4
  revert g
  intro gs
  refine Ex.sub (L' := StM g4 (.slice (some ⟨gs, 0, none⟩) 0 0) [] (List.replicate 5 Clk.zero) M) ?_ (Sub.empty (α := Ev) (some ⟨gs, 0, none⟩) 32 _)
  refine Ex.loop [3, 5] (fun m vs L' => ∃ (i : Nat) (v3 : Value) (s : List Ev × List Clk), i ≤ l.length ∧ m = l.length - i ∧ s = makeS (l.take i) ∧ MkOk i s ∧ v3.oneCell' = true ∧ vs = [v3, .int .i64 i] ∧ L' = StM g4 v3 s.1 s.2 M) l.length ⟨0, _, makeS [], by omega, by omega, rfl, makeS_ok [] (by simp), rfl, rfl, rfl⟩ ?_
  rintro m vs g1 L' ⟨i, v3, s, hi, rfl, hs, hk, o3, rfl, rfl⟩
  obtain ⟨out, hv⟩ := s
  refine Ex.sub (L' := StM g4 v3 out hv M) ?_ (Sub.refl _)
  refine Ex.keep [0, 3, 4, 5] rG (fun gk => ?_)
  by_cases hlt : i < l.length
  · have hch := hok _ (List.getElem_mem hlt)
    have hst := makeS_take l i hlt
    rw [← hs] at hst
    have hk2 := hk.step hch (by omega)
    rw [← hst] at hk2
    obtain ⟨hR, hcR⟩ := getD_mem hk.five hch.r
    obtain ⟨hF, hcF⟩ := getD_mem hk.five hch.f
    have h5 := hk.five
    simp only at hR hcR hF hcF h5
    have hcm := hk.clk _ (List.getElem_mem hR) ((l[i]'hlt).r % 5).toNat
    have hchr := hch.r
    have hchf := hch.f
    unfold mkStep at hst
    simp only at hst
    rw [hcR, hcF] at hst
    (repeat' (first | refine ExL.val rJ rJ rJ rV ?_ | (first | refine Ex.seq ?_ | refine Ex.region ?_ | refine ExL.nil ?_ | refine thn_n ?_ | refine Ex.cond_t rJ ?_ | refine Ex.cond_f rJ ?_ | refine Ex.skip ?_ | refine Ex.block ?_ | refine Ex.exit ?_ | refine Ex.ret ?_ | refine thn_exit ?_ | refine thn_ret ?_ | refine inb_n ?_ | refine inb_hit rJ ?_ | refine inb_miss rJ ?_ | refine inb_ret ?_ | refine rnd_exit ?_ | refine rnd_ret ?_ | refine meet_ret ?_ | refine meet_exit ?_) | (apply exlGuard; first | refine ExL.gskip rJ rJ rJ rJ rJ rJ ?_ | refine ExL.gtake rJ rJ rJ rJ ?_ | refine ExL.gskipU rJ rJ rJ rJ ?_ | (refine ExL.gsplit rJ rJ rJ (fun h => ?_) (fun h => ?_) <;> try (exfalso; omega))) | (first | refine st_new_ rJ rE (fun g => ?_) | refine st_boxA rJ rJ (fun g => ?_) | refine st_box1 rJ rE rN (fun g => ?_) | (apply exlStore; first | refine st_store1_ _ rJ rK rE rN rJ rJ rE rE ?_ | refine st_storeW_ _ rJ rK rJ rC rJ rJ rJ rE ?_ | refine st_storeR _ rJ rK rJ rE rJ rJ rE ?_ | refine st_storeA_ _ rJ rK rJ rC rJ rJ rJ rE rE ?_ | refine st_storeB _ rJ rJ rO rO rK rJ rO ?_ | refine st_storeG _ rJ rK rE rN rJ rO (fun cs hcs => ?_)) | refine st_slice0 rJ rJ rJ rJ (fun g => ?_) | refine st_slice1T rJ rJ rJ rJ (fun g => ?_) | refine st_makeT rJ rJ rJ rJ rE rJ rO rO (fun v o => ?_) | (apply exlCopy; first | refine st_copyW _ rJ rE rK rE rD rJ rE rJ (fun zs hzs => ?_) | refine st_copyS _ rJ rJ rK rE rD rJ rE rJ rO rO (fun zs hzs => ?_)) | refine st_sliceB rJ rJ rJ rJ rJ rJ rJ rL rE rE rJ (fun g => ?_) | refine st_slice1I rJ rJ rJ rJ rJ rJ (fun g => ?_) | refine st_slice1B rJ rJ rJ rJ rJ rJ rO rO (fun g => ?_) | refine st_slice1S rJ rJ rJ rJ rJ rJ (fun g => ?_) | refine st_slice2B rJ rJ rJ rJ rJ rJ rJ rO rO rO rO (fun g => ?_) | (apply exlConv; first | refine st_bytes rJ rJ rJ rJ rJ rO (fun v o => ?_) | refine st_mark _ rJ rJ rK rJ rJ rJ ?_) | refine st_clear _ (0 : UInt8) rJ rK rJ rJ rJ rJ rJ rO ?_ | refine st_clearT _ rJ rK rO rJ rJ rO rE ?_ | (apply exlAppend; first | refine st_app0 rJ rJ rE rD rJ rE rJ rE rJ rJ rJ rO (fun v o => ?_) | refine st_app _ rJ rE rK rE rD rJ rE rJ rE rJ rJ rJ rO (fun v o => ?_) | refine st_shift _ rJ rJ rJ rK rO rJ rJ rJ rO rO rE ?_)) | (refine Ex.cond_d rJ (fun h => ?_) (fun h => ?_) <;> try (exfalso; omega))))
    cases hsy : (l[i]'hlt).sync
    · rw [hsy, if_neg (by simp)] at hst
      have hR5 : ((l[i]'hlt).r % 5).toNat < 5 := by omega
      have hkh : ∀ e ∈ out, 1 ≤ e.h ∧ e.h ≤ 1000000 := fun e he => by have := hk.h e he; omega
      have hkl : out.length ≤ 1000000 := by have h := hk.len; simp only at h; omega
      (repeat' (first | refine ExL.val rJ rJ rJ rV ?_ | (first | refine Ex.seq ?_ | refine Ex.region ?_ | refine ExL.nil ?_ | refine thn_n ?_ | refine Ex.cond_t rJ ?_ | refine Ex.cond_f rJ ?_ | refine Ex.skip ?_ | refine Ex.block ?_ | refine Ex.exit ?_ | refine Ex.ret ?_ | refine thn_exit ?_ | refine thn_ret ?_ | refine inb_n ?_ | refine inb_hit rJ ?_ | refine inb_miss rJ ?_ | refine inb_ret ?_ | refine rnd_exit ?_ | refine rnd_ret ?_ | refine meet_ret ?_ | refine meet_exit ?_) | (apply exlGuard; first | refine ExL.gskip rJ rJ rJ rJ rJ rJ ?_ | refine ExL.gtake rJ rJ rJ rJ ?_ | refine ExL.gskipU rJ rJ rJ rJ ?_ | (refine ExL.gsplit rJ rJ rJ (fun h => ?_) (fun h => ?_) <;> try (exfalso; omega))) | (first | refine st_new_ rJ rE (fun g => ?_) | refine st_boxA rJ rJ (fun g => ?_) | refine st_box1 rJ rE rN (fun g => ?_) | (apply exlStore; first | refine st_store1_ _ rJ rK rE rN rJ rJ rE rE ?_ | refine st_storeW_ _ rJ rK rJ rC rJ rJ rJ rE ?_ | refine st_storeR _ rJ rK rJ rE rJ rJ rE ?_ | refine st_storeA_ _ rJ rK rJ rC rJ rJ rJ rE rE ?_ | refine st_storeB _ rJ rJ rO rO rK rJ rO ?_ | refine st_storeG _ rJ rK rE rN rJ rO (fun cs hcs => ?_)) | refine st_slice0 rJ rJ rJ rJ (fun g => ?_) | refine st_slice1T rJ rJ rJ rJ (fun g => ?_) | refine st_makeT rJ rJ rJ rJ rE rJ rO rO (fun v o => ?_) | (apply exlCopy; first | refine st_copyW _ rJ rE rK rE rD rJ rE rJ (fun zs hzs => ?_) | refine st_copyS _ rJ rJ rK rE rD rJ rE rJ rO rO (fun zs hzs => ?_)) | refine st_sliceB rJ rJ rJ rJ rJ rJ rJ rL rE rE rJ (fun g => ?_) | refine st_slice1I rJ rJ rJ rJ rJ rJ (fun g => ?_) | refine st_slice1B rJ rJ rJ rJ rJ rJ rO rO (fun g => ?_) | refine st_slice1S rJ rJ rJ rJ rJ rJ (fun g => ?_) | refine st_slice2B rJ rJ rJ rJ rJ rJ rJ rO rO rO rO (fun g => ?_) | (apply exlConv; first | refine st_bytes rJ rJ rJ rJ rJ rO (fun v o => ?_) | refine st_mark _ rJ rJ rK rJ rJ rJ ?_) | refine st_clear _ (0 : UInt8) rJ rK rJ rJ rJ rJ rJ rO ?_ | refine st_clearT _ rJ rK rO rJ rJ rO rE ?_ | (apply exlAppend; first | refine st_app0 rJ rJ rE rD rJ rE rJ rE rJ rJ rJ rO (fun v o => ?_) | refine st_app _ rJ rE rK rE rD rJ rE rJ rE rJ rJ rJ rO (fun v o => ?_) | refine st_shift _ rJ rJ rJ rK rO rJ rJ rJ rO rO rE ?_)) | (refine Ex.cond_d rJ (fun h => ?_) (fun h => ?_) <;> try (exfalso; omega))))
      refine st_callIs [] rJ Try.call42 rJ rJ (fit_spec (l[i]'hlt).ed _ hch.k hch.v) ?_
      rintro _ _ ⟨rfl, rfl⟩
      generalize (l[i]'hlt).ed.fit = F at hst ⊢
      generalize hcc : hv[((l[i]'hlt).r % 5).toNat]'hR = c at hst hcm ⊢
      clear hcR hcF
      (repeat' (first | refine ExL.val rJ rJ rJ rV ?_ | (first | refine Ex.seq ?_ | refine Ex.region ?_ | refine ExL.nil ?_ | refine thn_n ?_ | refine Ex.cond_t rJ ?_ | refine Ex.cond_f rJ ?_ | refine Ex.skip ?_ | refine Ex.block ?_ | refine Ex.exit ?_ | refine Ex.ret ?_ | refine thn_exit ?_ | refine thn_ret ?_ | refine inb_n ?_ | refine inb_hit rJ ?_ | refine inb_miss rJ ?_ | refine inb_ret ?_ | refine rnd_exit ?_ | refine rnd_ret ?_ | refine meet_ret ?_ | refine meet_exit ?_) | (apply exlGuard; first | refine ExL.gskip rJ rJ rJ rJ rJ rJ ?_ | refine ExL.gtake rJ rJ rJ rJ ?_ | refine ExL.gskipU rJ rJ rJ rJ ?_ | (refine ExL.gsplit rJ rJ rJ (fun h => ?_) (fun h => ?_) <;> try (exfalso; omega))) | (first | refine st_new_ rJ rE (fun g => ?_) | refine st_boxA rJ rJ (fun g => ?_) | refine st_box1 rJ rE rN (fun g => ?_) | (apply exlStore; first | refine st_store1_ _ rJ rK rE rN rJ rJ rE rE ?_ | refine st_storeW_ _ rJ rK rJ rC rJ rJ rJ rE ?_ | refine st_storeR _ rJ rK rJ rE rJ rJ rE ?_ | refine st_storeA_ _ rJ rK rJ rC rJ rJ rJ rE rE ?_ | refine st_storeB _ rJ rJ rO rO rK rJ rO ?_ | refine st_storeG _ rJ rK rE rN rJ rO (fun cs hcs => ?_)) | refine st_slice0 rJ rJ rJ rJ (fun g => ?_) | refine st_slice1T rJ rJ rJ rJ (fun g => ?_) | refine st_makeT rJ rJ rJ rJ rE rJ rO rO (fun v o => ?_) | (apply exlCopy; first | refine st_copyW _ rJ rE rK rE rD rJ rE rJ (fun zs hzs => ?_) | refine st_copyS _ rJ rJ rK rE rD rJ rE rJ rO rO (fun zs hzs => ?_)) | refine st_sliceB rJ rJ rJ rJ rJ rJ rJ rL rE rE rJ (fun g => ?_) | refine st_slice1I rJ rJ rJ rJ rJ rJ (fun g => ?_) | refine st_slice1B rJ rJ rJ rJ rJ rJ rO rO (fun g => ?_) | refine st_slice1S rJ rJ rJ rJ rJ rJ (fun g => ?_) | refine st_slice2B rJ rJ rJ rJ rJ rJ rJ rO rO rO rO (fun g => ?_) | (apply exlConv; first | refine st_bytes rJ rJ rJ rJ rJ rO (fun v o => ?_) | refine st_mark _ rJ rJ rK rJ rJ rJ ?_) | refine st_clear _ (0 : UInt8) rJ rK rJ rJ rJ rJ rJ rO ?_ | refine st_clearT _ rJ rK rO rJ rJ rO rE ?_ | (apply exlAppend; first | refine st_app0 rJ rJ rE rD rJ rE rJ rE rJ rJ rJ rO (fun v o => ?_) | refine st_app _ rJ rE rK rE rD rJ rE rJ rE rJ rJ rJ rO (fun v o => ?_) | refine st_shift _ rJ rJ rJ rK rO rJ rJ rJ rO rO rE ?_)) | (refine Ex.cond_d rJ (fun h => ?_) (fun h => ?_) <;> try (exfalso; omega))))
      revert g
      intro g7
      refine Ex.reord [1] rE ?_
      (refine Ex.mixA 27 (_ :: _ :: M) rfl (by kernel_rfl) rF ?_; (repeat' (first | refine mx_val rJ rJ rJ rV ?_ | refine mx_nil ?_ | (first | refine mx_gskip rJ rJ rJ rJ ?_ | refine mx_gtake rJ rJ rJ ?_ | refine mx_gskipU rJ rJ rJ ?_) | (first | refine mx_slice1T rJ rJ rJ rJ (fun g => ?_) | refine mx_slice1I rJ rJ rJ rJ rJ rJ (fun g => ?_) | refine mx_slice1B rJ rJ rJ rJ rJ rJ rO rO (fun g => ?_) | refine mx_slice1S rJ rJ rJ rJ rJ rJ (fun g => ?_) | refine mx_slice2B rJ rJ rJ rJ rJ rJ rJ rO rO rO rO (fun g => ?_) | refine mx_alloc rJ rE (fun g => ?_) | refine mx_boxA rJ rJ (fun g => ?_) | refine mx_slice0 rJ rJ rJ rJ (fun g => ?_)) | (refine mx_gsplit rJ rJ rJ (fun h => ?_) (fun h => ?_) <;> try (exfalso; omega)) | (refine mx_act rJ rJ rJ ?_; (first | (apply exlCopy; first | refine st_copyW _ rJ rE rK rE rD rJ rE rJ (fun zs hzs => ?_) | refine st_copyS _ rJ rJ rK rE rD rJ rE rJ rO rO (fun zs hzs => ?_)) | (apply exlAppend; first | refine st_app0 rJ rJ rE rD rJ rE rJ rE rJ rJ rJ rO (fun v o => ?_) | refine st_app _ rJ rE rK rE rD rJ rE rJ rE rJ rJ rJ rO (fun v o => ?_) | refine st_shift _ rJ rJ rJ rK rO rJ rJ rJ rO rO rE ?_)); refine ExL.nil ?_; refine mxEnd_n rF ?_))))
      refine mx_val rJ rJ rJ (vl_loadB1 (xs := hv) (o := ((l[i]'hlt).r % 5).toNat) 1 rJ rJ rJ rJ hR hR5 (by rw [hcc]; exact Clk.cells_get c _ hR5)) ?_
      (repeat' (first | refine mx_val rJ rJ rJ rV ?_ | refine mx_nil ?_ | (first | refine mx_gskip rJ rJ rJ rJ ?_ | refine mx_gtake rJ rJ rJ ?_ | refine mx_gskipU rJ rJ rJ ?_) | (first | refine mx_slice1T rJ rJ rJ rJ (fun g => ?_) | refine mx_slice1I rJ rJ rJ rJ rJ rJ (fun g => ?_) | refine mx_slice1B rJ rJ rJ rJ rJ rJ rO rO (fun g => ?_) | refine mx_slice1S rJ rJ rJ rJ rJ rJ (fun g => ?_) | refine mx_slice2B rJ rJ rJ rJ rJ rJ rJ rO rO rO rO (fun g => ?_) | refine mx_alloc rJ rE (fun g => ?_) | refine mx_boxA rJ rJ (fun g => ?_) | refine mx_slice0 rJ rJ rJ rJ (fun g => ?_)) | (refine mx_gsplit rJ rJ rJ (fun h => ?_) (fun h => ?_) <;> try (exfalso; omega)) | (refine mx_act rJ rJ rJ ?_; (first | (apply exlCopy; first | refine st_copyW _ rJ rE rK rE rD rJ rE rJ (fun zs hzs => ?_) | refine st_copyS _ rJ rJ rK rE rD rJ rE rJ rO rO (fun zs hzs => ?_)) | (apply exlAppend; first | refine st_app0 rJ rJ rE rD rJ rE rJ rE rJ rJ rJ rO (fun v o => ?_) | refine st_app _ rJ rE rK rE rD rJ rE rJ rE rJ rJ rJ rO (fun v o => ?_) | refine st_shift _ rJ rJ rJ rK rO rJ rJ rJ rO rO rE ?_)); refine ExL.nil ?_; refine mxEnd_n rF ?_)))
      refine mx_val rJ rJ rJ (vl_loadBA (xs := hv) 1 rJ rJ rJ rJ rJ hR) ?_
      rw [hcc]
      (repeat' (first | refine mx_val rJ rJ rJ rV ?_ | refine mx_nil ?_ | (first | refine mx_gskip rJ rJ rJ rJ ?_ | refine mx_gtake rJ rJ rJ ?_ | refine mx_gskipU rJ rJ rJ ?_) | (first | refine mx_slice1T rJ rJ rJ rJ (fun g => ?_) | refine mx_slice1I rJ rJ rJ rJ rJ rJ (fun g => ?_) | refine mx_slice1B rJ rJ rJ rJ rJ rJ rO rO (fun g => ?_) | refine mx_slice1S rJ rJ rJ rJ rJ rJ (fun g => ?_) | refine mx_slice2B rJ rJ rJ rJ rJ rJ rJ rO rO rO rO (fun g => ?_) | refine mx_alloc rJ rE (fun g => ?_) | refine mx_boxA rJ rJ (fun g => ?_) | refine mx_slice0 rJ rJ rJ rJ (fun g => ?_)) | (refine mx_gsplit rJ rJ rJ (fun h => ?_) (fun h => ?_) <;> try (exfalso; omega)) | (refine mx_act rJ rJ rJ ?_; (first | (apply exlCopy; first | refine st_copyW _ rJ rE rK rE rD rJ rE rJ (fun zs hzs => ?_) | refine st_copyS _ rJ rJ rK rE rD rJ rE rJ rO rO (fun zs hzs => ?_)) | (apply exlAppend; first | refine st_app0 rJ rJ rE rD rJ rE rJ rE rJ rJ rJ rO (fun v o => ?_) | refine st_app _ rJ rE rK rE rD rJ rE rJ rE rJ rJ rJ rO (fun v o => ?_) | refine st_shift _ rJ rJ rJ rK rO rJ rJ rJ rO rO rE ?_)); refine ExL.nil ?_; refine mxEnd_n rF ?_)))
      refine mx_val rJ rJ rJ (vl_loadBA (xs := hv) 1 rJ rJ rJ rJ rJ hR) ?_
      rw [hcc]
      (repeat' (first | refine mx_val rJ rJ rJ rV ?_ | refine mx_nil ?_ | (first | refine mx_gskip rJ rJ rJ rJ ?_ | refine mx_gtake rJ rJ rJ ?_ | refine mx_gskipU rJ rJ rJ ?_) | (first | refine mx_slice1T rJ rJ rJ rJ (fun g => ?_) | refine mx_slice1I rJ rJ rJ rJ rJ rJ (fun g => ?_) | refine mx_slice1B rJ rJ rJ rJ rJ rJ rO rO (fun g => ?_) | refine mx_slice1S rJ rJ rJ rJ rJ rJ (fun g => ?_) | refine mx_slice2B rJ rJ rJ rJ rJ rJ rJ rO rO rO rO (fun g => ?_) | refine mx_alloc rJ rE (fun g => ?_) | refine mx_boxA rJ rJ (fun g => ?_) | refine mx_slice0 rJ rJ rJ rJ (fun g => ?_)) | (refine mx_gsplit rJ rJ rJ (fun h => ?_) (fun h => ?_) <;> try (exfalso; omega)) | (refine mx_act rJ rJ rJ ?_; (first | (apply exlCopy; first | refine st_copyW _ rJ rE rK rE rD rJ rE rJ (fun zs hzs => ?_) | refine st_copyS _ rJ rJ rK rE rD rJ rE rJ rO rO (fun zs hzs => ?_)) | (apply exlAppend; first | refine st_app0 rJ rJ rE rD rJ rE rJ rE rJ rJ rJ rO (fun v o => ?_) | refine st_app _ rJ rE rK rE rD rJ rE rJ rE rJ rJ rJ rO (fun v o => ?_) | refine st_shift _ rJ rJ rJ rK rO rJ rJ rJ rO rO rE ?_)); refine ExL.nil ?_; refine mxEnd_n rF ?_)))
      (refine mx_act rJ rJ rJ ?_; refine st_callIs [] rJ Try.call43 rE rJ (height_F v3 out c _ rD hkl hkh) ?_)
      rintro _ _ ⟨rfl, rfl⟩
      generalize heightP out c = hh at hst ⊢
      (refine ExL.nil ?_; refine mxEnd_n rF ?_; (repeat' (first | refine mx_val rJ rJ rJ rV ?_ | refine mx_nil ?_ | (first | refine mx_gskip rJ rJ rJ rJ ?_ | refine mx_gtake rJ rJ rJ ?_ | refine mx_gskipU rJ rJ rJ ?_) | (first | refine mx_slice1T rJ rJ rJ rJ (fun g => ?_) | refine mx_slice1I rJ rJ rJ rJ rJ rJ (fun g => ?_) | refine mx_slice1B rJ rJ rJ rJ rJ rJ rO rO (fun g => ?_) | refine mx_slice1S rJ rJ rJ rJ rJ rJ (fun g => ?_) | refine mx_slice2B rJ rJ rJ rJ rJ rJ rJ rO rO rO rO (fun g => ?_) | refine mx_alloc rJ rE (fun g => ?_) | refine mx_boxA rJ rJ (fun g => ?_) | refine mx_slice0 rJ rJ rJ rJ (fun g => ?_)) | (refine mx_gsplit rJ rJ rJ (fun h => ?_) (fun h => ?_) <;> try (exfalso; omega)) | (refine mx_act rJ rJ rJ ?_; (first | (apply exlCopy; first | refine st_copyW _ rJ rE rK rE rD rJ rE rJ (fun zs hzs => ?_) | refine st_copyS _ rJ rJ rK rE rD rJ rE rJ rO rO (fun zs hzs => ?_)) | (apply exlAppend; first | refine st_app0 rJ rJ rE rD rJ rE rJ rE rJ rJ rJ rO (fun v o => ?_) | refine st_app _ rJ rE rK rE rD rJ rE rJ rE rJ rJ rJ rO (fun v o => ?_) | refine st_shift _ rJ rJ rJ rK rO rJ rJ rJ rO rO rE ?_)); refine ExL.nil ?_; refine mxEnd_n rF ?_))))
      refine mx_slice1T (a := (⟨(l[i]'hlt).r % 5, c.get ((l[i]'hlt).r % 5).toNat + 1, c, hh, F⟩ : Ev)) rJ rJ rJ rJ (fun g => ?_)
      (repeat' (first | refine mx_val rJ rJ rJ rV ?_ | refine mx_nil ?_ | (first | refine mx_gskip rJ rJ rJ rJ ?_ | refine mx_gtake rJ rJ rJ ?_ | refine mx_gskipU rJ rJ rJ ?_) | (first | refine mx_slice1T rJ rJ rJ rJ (fun g => ?_) | refine mx_slice1I rJ rJ rJ rJ rJ rJ (fun g => ?_) | refine mx_slice1B rJ rJ rJ rJ rJ rJ rO rO (fun g => ?_) | refine mx_slice1S rJ rJ rJ rJ rJ rJ (fun g => ?_) | refine mx_slice2B rJ rJ rJ rJ rJ rJ rJ rO rO rO rO (fun g => ?_) | refine mx_alloc rJ rE (fun g => ?_) | refine mx_boxA rJ rJ (fun g => ?_) | refine mx_slice0 rJ rJ rJ rJ (fun g => ?_)) | (refine mx_gsplit rJ rJ rJ (fun h => ?_) (fun h => ?_) <;> try (exfalso; omega)) | (refine mx_act rJ rJ rJ ?_; (first | (apply exlCopy; first | refine st_copyW _ rJ rE rK rE rD rJ rE rJ (fun zs hzs => ?_) | refine st_copyS _ rJ rJ rK rE rD rJ rE rJ rO rO (fun zs hzs => ?_)) | (apply exlAppend; first | refine st_app0 rJ rJ rE rD rJ rE rJ rE rJ rJ rJ rO (fun v o => ?_) | refine st_app _ rJ rE rK rE rD rJ rE rJ rE rJ rJ rJ rO (fun v o => ?_) | refine st_shift _ rJ rJ rJ rK rO rJ rJ rJ rO rO rE ?_)); refine ExL.nil ?_; refine mxEnd_n rF ?_)))
      (repeat' (first | refine ExL.val rJ rJ rJ rV ?_ | (first | refine Ex.seq ?_ | refine Ex.region ?_ | refine ExL.nil ?_ | refine thn_n ?_ | refine Ex.cond_t rJ ?_ | refine Ex.cond_f rJ ?_ | refine Ex.skip ?_ | refine Ex.block ?_ | refine Ex.exit ?_ | refine Ex.ret ?_ | refine thn_exit ?_ | refine thn_ret ?_ | refine inb_n ?_ | refine inb_hit rJ ?_ | refine inb_miss rJ ?_ | refine inb_ret ?_ | refine rnd_exit ?_ | refine rnd_ret ?_ | refine meet_ret ?_ | refine meet_exit ?_) | (apply exlGuard; first | refine ExL.gskip rJ rJ rJ rJ rJ rJ ?_ | refine ExL.gtake rJ rJ rJ rJ ?_ | refine ExL.gskipU rJ rJ rJ rJ ?_ | (refine ExL.gsplit rJ rJ rJ (fun h => ?_) (fun h => ?_) <;> try (exfalso; omega))) | (first | refine st_new_ rJ rE (fun g => ?_) | refine st_boxA rJ rJ (fun g => ?_) | refine st_box1 rJ rE rN (fun g => ?_) | (apply exlStore; first | refine st_store1_ _ rJ rK rE rN rJ rJ rE rE ?_ | refine st_storeW_ _ rJ rK rJ rC rJ rJ rJ rE ?_ | refine st_storeR _ rJ rK rJ rE rJ rJ rE ?_ | refine st_storeA_ _ rJ rK rJ rC rJ rJ rJ rE rE ?_ | refine st_storeB _ rJ rJ rO rO rK rJ rO ?_ | refine st_storeG _ rJ rK rE rN rJ rO (fun cs hcs => ?_)) | refine st_slice0 rJ rJ rJ rJ (fun g => ?_) | refine st_slice1T rJ rJ rJ rJ (fun g => ?_) | refine st_makeT rJ rJ rJ rJ rE rJ rO rO (fun v o => ?_) | (apply exlCopy; first | refine st_copyW _ rJ rE rK rE rD rJ rE rJ (fun zs hzs => ?_) | refine st_copyS _ rJ rJ rK rE rD rJ rE rJ rO rO (fun zs hzs => ?_)) | refine st_sliceB rJ rJ rJ rJ rJ rJ rJ rL rE rE rJ (fun g => ?_) | refine st_slice1I rJ rJ rJ rJ rJ rJ (fun g => ?_) | refine st_slice1B rJ rJ rJ rJ rJ rJ rO rO (fun g => ?_) | refine st_slice1S rJ rJ rJ rJ rJ rJ (fun g => ?_) | refine st_slice2B rJ rJ rJ rJ rJ rJ rJ rO rO rO rO (fun g => ?_) | (apply exlConv; first | refine st_bytes rJ rJ rJ rJ rJ rO (fun v o => ?_) | refine st_mark _ rJ rJ rK rJ rJ rJ ?_) | refine st_clear _ (0 : UInt8) rJ rK rJ rJ rJ rJ rJ rO ?_ | refine st_clearT _ rJ rK rO rJ rJ rO rE ?_ | (apply exlAppend; first | refine st_app0 rJ rJ rE rD rJ rE rJ rE rJ rJ rJ rO (fun v o => ?_) | refine st_app _ rJ rE rK rE rD rJ rE rJ rE rJ rJ rJ rO (fun v o => ?_) | refine st_shift _ rJ rJ rJ rK rO rJ rJ rJ rO rO rE ?_)) | (refine Ex.cond_d rJ (fun h => ?_) (fun h => ?_) <;> try (exfalso; omega))))
      refine Ex.sub (L' := StM g4 v (out ++ [(⟨(l[i]'hlt).r % 5, c.get ((l[i]'hlt).r % 5).toNat + 1, c, hh, F⟩ : Ev)]) hv M) ?_ rB
      (refine Ex.mixA 9 _ rfl (by kernel_rfl) (Fac.refl _) ?_; (repeat' (first | refine mx_val rJ rJ rJ rV ?_ | refine mx_nil ?_ | (first | refine mx_gskip rJ rJ rJ rJ ?_ | refine mx_gtake rJ rJ rJ ?_ | refine mx_gskipU rJ rJ rJ ?_) | (first | refine mx_slice1T rJ rJ rJ rJ (fun g => ?_) | refine mx_slice1I rJ rJ rJ rJ rJ rJ (fun g => ?_) | refine mx_slice1B rJ rJ rJ rJ rJ rJ rO rO (fun g => ?_) | refine mx_slice1S rJ rJ rJ rJ rJ rJ (fun g => ?_) | refine mx_slice2B rJ rJ rJ rJ rJ rJ rJ rO rO rO rO (fun g => ?_) | refine mx_alloc rJ rE (fun g => ?_) | refine mx_boxA rJ rJ (fun g => ?_) | refine mx_slice0 rJ rJ rJ rJ (fun g => ?_)) | (refine mx_gsplit rJ rJ rJ (fun h => ?_) (fun h => ?_) <;> try (exfalso; omega)) | (refine mx_act rJ rJ rJ ?_; (first | (apply exlCopy; first | refine st_copyW _ rJ rE rK rE rD rJ rE rJ (fun zs hzs => ?_) | refine st_copyS _ rJ rJ rK rE rD rJ rE rJ rO rO (fun zs hzs => ?_)) | (apply exlAppend; first | refine st_app0 rJ rJ rE rD rJ rE rJ rE rJ rJ rJ rO (fun v o => ?_) | refine st_app _ rJ rE rK rE rD rJ rE rJ rE rJ rJ rJ rO (fun v o => ?_) | refine st_shift _ rJ rJ rJ rK rO rJ rJ rJ rO rO rE ?_)); refine ExL.nil ?_; refine mxEnd_n rF ?_))))
      refine mx_val rJ rJ rJ (vl_loadB1 (xs := hv) (o := ((l[i]'hlt).r % 5).toNat) 1 rJ rJ rJ rJ hR hR5 (by rw [hcc]; exact Clk.cells_get c _ hR5)) ?_
      (repeat' (first | refine mx_val rJ rJ rJ rV ?_ | refine mx_nil ?_ | (first | refine mx_gskip rJ rJ rJ rJ ?_ | refine mx_gtake rJ rJ rJ ?_ | refine mx_gskipU rJ rJ rJ ?_) | (first | refine mx_slice1T rJ rJ rJ rJ (fun g => ?_) | refine mx_slice1I rJ rJ rJ rJ rJ rJ (fun g => ?_) | refine mx_slice1B rJ rJ rJ rJ rJ rJ rO rO (fun g => ?_) | refine mx_slice1S rJ rJ rJ rJ rJ rJ (fun g => ?_) | refine mx_slice2B rJ rJ rJ rJ rJ rJ rJ rO rO rO rO (fun g => ?_) | refine mx_alloc rJ rE (fun g => ?_) | refine mx_boxA rJ rJ (fun g => ?_) | refine mx_slice0 rJ rJ rJ rJ (fun g => ?_)) | (refine mx_gsplit rJ rJ rJ (fun h => ?_) (fun h => ?_) <;> try (exfalso; omega)) | (refine mx_act rJ rJ rJ ?_; (first | (apply exlCopy; first | refine st_copyW _ rJ rE rK rE rD rJ rE rJ (fun zs hzs => ?_) | refine st_copyS _ rJ rJ rK rE rD rJ rE rJ rO rO (fun zs hzs => ?_)) | (apply exlAppend; first | refine st_app0 rJ rJ rE rD rJ rE rJ rE rJ rJ rJ rO (fun v o => ?_) | refine st_app _ rJ rE rK rE rD rJ rE rJ rE rJ rJ rJ rO (fun v o => ?_) | refine st_shift _ rJ rJ rJ rK rO rJ rJ rJ rO rO rE ?_)); refine ExL.nil ?_; refine mxEnd_n rF ?_)))
      (repeat' (first | refine ExL.val rJ rJ rJ rV ?_ | (first | refine Ex.seq ?_ | refine Ex.region ?_ | refine ExL.nil ?_ | refine thn_n ?_ | refine Ex.cond_t rJ ?_ | refine Ex.cond_f rJ ?_ | refine Ex.skip ?_ | refine Ex.block ?_ | refine Ex.exit ?_ | refine Ex.ret ?_ | refine thn_exit ?_ | refine thn_ret ?_ | refine inb_n ?_ | refine inb_hit rJ ?_ | refine inb_miss rJ ?_ | refine inb_ret ?_ | refine rnd_exit ?_ | refine rnd_ret ?_ | refine meet_ret ?_ | refine meet_exit ?_) | (apply exlGuard; first | refine ExL.gskip rJ rJ rJ rJ rJ rJ ?_ | refine ExL.gtake rJ rJ rJ rJ ?_ | refine ExL.gskipU rJ rJ rJ rJ ?_ | (refine ExL.gsplit rJ rJ rJ (fun h => ?_) (fun h => ?_) <;> try (exfalso; omega))) | (first | refine st_new_ rJ rE (fun g => ?_) | refine st_boxA rJ rJ (fun g => ?_) | refine st_box1 rJ rE rN (fun g => ?_) | (apply exlStore; first | refine st_store1_ _ rJ rK rE rN rJ rJ rE rE ?_ | refine st_storeW_ _ rJ rK rJ rC rJ rJ rJ rE ?_ | refine st_storeR _ rJ rK rJ rE rJ rJ rE ?_ | refine st_storeA_ _ rJ rK rJ rC rJ rJ rJ rE rE ?_ | refine st_storeB _ rJ rJ rO rO rK rJ rO ?_ | refine st_storeG _ rJ rK rE rN rJ rO (fun cs hcs => ?_)) | refine st_slice0 rJ rJ rJ rJ (fun g => ?_) | refine st_slice1T rJ rJ rJ rJ (fun g => ?_) | refine st_makeT rJ rJ rJ rJ rE rJ rO rO (fun v o => ?_) | (apply exlCopy; first | refine st_copyW _ rJ rE rK rE rD rJ rE rJ (fun zs hzs => ?_) | refine st_copyS _ rJ rJ rK rE rD rJ rE rJ rO rO (fun zs hzs => ?_)) | refine st_sliceB rJ rJ rJ rJ rJ rJ rJ rL rE rE rJ (fun g => ?_) | refine st_slice1I rJ rJ rJ rJ rJ rJ (fun g => ?_) | refine st_slice1B rJ rJ rJ rJ rJ rJ rO rO (fun g => ?_) | refine st_slice1S rJ rJ rJ rJ rJ rJ (fun g => ?_) | refine st_slice2B rJ rJ rJ rJ rJ rJ rJ rO rO rO rO (fun g => ?_) | (apply exlConv; first | refine st_bytes rJ rJ rJ rJ rJ rO (fun v o => ?_) | refine st_mark _ rJ rJ rK rJ rJ rJ ?_) | refine st_clear _ (0 : UInt8) rJ rK rJ rJ rJ rJ rJ rO ?_ | refine st_clearT _ rJ rK rO rJ rJ rO rE ?_ | (apply exlAppend; first | refine st_app0 rJ rJ rE rD rJ rE rJ rE rJ rJ rJ rO (fun v o => ?_) | refine st_app _ rJ rE rK rE rD rJ rE rJ rE rJ rJ rJ rO (fun v o => ?_) | refine st_shift _ rJ rJ rJ rK rO rJ rJ rJ rO rO rE ?_)) | (refine Ex.cond_d rJ (fun h => ?_) (fun h => ?_) <;> try (exfalso; omega))))
      refine st_storeB1 (xs := hv) (a := c.set ((l[i]'hlt).r % 5).toNat (c.get ((l[i]'hlt).r % 5).toNat + 1)) (o := ((l[i]'hlt).r % 5).toNat) 1 rJ rJ rJ rfl rJ rJ hR hR5 (by rw [hcc]; exact (Clk.cells_set c _ hR5 _).symm) rE ?_
      (repeat' (first | refine ExL.val rJ rJ rJ rV ?_ | (first | refine Ex.seq ?_ | refine Ex.region ?_ | refine ExL.nil ?_ | refine thn_n ?_ | refine Ex.cond_t rJ ?_ | refine Ex.cond_f rJ ?_ | refine Ex.skip ?_ | refine Ex.block ?_ | refine Ex.exit ?_ | refine Ex.ret ?_ | refine thn_exit ?_ | refine thn_ret ?_ | refine inb_n ?_ | refine inb_hit rJ ?_ | refine inb_miss rJ ?_ | refine inb_ret ?_ | refine rnd_exit ?_ | refine rnd_ret ?_ | refine meet_ret ?_ | refine meet_exit ?_) | (apply exlGuard; first | refine ExL.gskip rJ rJ rJ rJ rJ rJ ?_ | refine ExL.gtake rJ rJ rJ rJ ?_ | refine ExL.gskipU rJ rJ rJ rJ ?_ | (refine ExL.gsplit rJ rJ rJ (fun h => ?_) (fun h => ?_) <;> try (exfalso; omega))) | (first | refine st_new_ rJ rE (fun g => ?_) | refine st_boxA rJ rJ (fun g => ?_) | refine st_box1 rJ rE rN (fun g => ?_) | (apply exlStore; first | refine st_store1_ _ rJ rK rE rN rJ rJ rE rE ?_ | refine st_storeW_ _ rJ rK rJ rC rJ rJ rJ rE ?_ | refine st_storeR _ rJ rK rJ rE rJ rJ rE ?_ | refine st_storeA_ _ rJ rK rJ rC rJ rJ rJ rE rE ?_ | refine st_storeB _ rJ rJ rO rO rK rJ rO ?_ | refine st_storeG _ rJ rK rE rN rJ rO (fun cs hcs => ?_)) | refine st_slice0 rJ rJ rJ rJ (fun g => ?_) | refine st_slice1T rJ rJ rJ rJ (fun g => ?_) | refine st_makeT rJ rJ rJ rJ rE rJ rO rO (fun v o => ?_) | (apply exlCopy; first | refine st_copyW _ rJ rE rK rE rD rJ rE rJ (fun zs hzs => ?_) | refine st_copyS _ rJ rJ rK rE rD rJ rE rJ rO rO (fun zs hzs => ?_)) | refine st_sliceB rJ rJ rJ rJ rJ rJ rJ rL rE rE rJ (fun g => ?_) | refine st_slice1I rJ rJ rJ rJ rJ rJ (fun g => ?_) | refine st_slice1B rJ rJ rJ rJ rJ rJ rO rO (fun g => ?_) | refine st_slice1S rJ rJ rJ rJ rJ rJ (fun g => ?_) | refine st_slice2B rJ rJ rJ rJ rJ rJ rJ rO rO rO rO (fun g => ?_) | (apply exlConv; first | refine st_bytes rJ rJ rJ rJ rJ rO (fun v o => ?_) | refine st_mark _ rJ rJ rK rJ rJ rJ ?_) | refine st_clear _ (0 : UInt8) rJ rK rJ rJ rJ rJ rJ rO ?_ | refine st_clearT _ rJ rK rO rJ rJ rO rE ?_ | (apply exlAppend; first | refine st_app0 rJ rJ rE rD rJ rE rJ rE rJ rJ rJ rO (fun v o => ?_) | refine st_app _ rJ rE rK rE rD rJ rE rJ rE rJ rJ rJ rO (fun v o => ?_) | refine st_shift _ rJ rJ rJ rK rO rJ rJ rJ rO rO rE ?_)) | (refine Ex.cond_d rJ (fun h => ?_) (fun h => ?_) <;> try (exfalso; omega))))
      exact rnd_n ⟨l.length - (i + 1), _, by omega, rB, i + 1, v, _, by omega, rfl, hst.symm, by rw [← hst]; simpa using hk2, by assumption, lcons rfl (lcons (vint (by omega)) rfl), rfl⟩
    · rw [hsy, if_pos rfl] at hst
      (repeat' (first | refine ExL.val rJ rJ rJ rV ?_ | (first | refine Ex.seq ?_ | refine Ex.region ?_ | refine ExL.nil ?_ | refine thn_n ?_ | refine Ex.cond_t rJ ?_ | refine Ex.cond_f rJ ?_ | refine Ex.skip ?_ | refine Ex.block ?_ | refine Ex.exit ?_ | refine Ex.ret ?_ | refine thn_exit ?_ | refine thn_ret ?_ | refine inb_n ?_ | refine inb_hit rJ ?_ | refine inb_miss rJ ?_ | refine inb_ret ?_ | refine rnd_exit ?_ | refine rnd_ret ?_ | refine meet_ret ?_ | refine meet_exit ?_) | (apply exlGuard; first | refine ExL.gskip rJ rJ rJ rJ rJ rJ ?_ | refine ExL.gtake rJ rJ rJ rJ ?_ | refine ExL.gskipU rJ rJ rJ rJ ?_ | (refine ExL.gsplit rJ rJ rJ (fun h => ?_) (fun h => ?_) <;> try (exfalso; omega))) | (first | refine st_new_ rJ rE (fun g => ?_) | refine st_boxA rJ rJ (fun g => ?_) | refine st_box1 rJ rE rN (fun g => ?_) | (apply exlStore; first | refine st_store1_ _ rJ rK rE rN rJ rJ rE rE ?_ | refine st_storeW_ _ rJ rK rJ rC rJ rJ rJ rE ?_ | refine st_storeR _ rJ rK rJ rE rJ rJ rE ?_ | refine st_storeA_ _ rJ rK rJ rC rJ rJ rJ rE rE ?_ | refine st_storeB _ rJ rJ rO rO rK rJ rO ?_ | refine st_storeG _ rJ rK rE rN rJ rO (fun cs hcs => ?_)) | refine st_slice0 rJ rJ rJ rJ (fun g => ?_) | refine st_slice1T rJ rJ rJ rJ (fun g => ?_) | refine st_makeT rJ rJ rJ rJ rE rJ rO rO (fun v o => ?_) | (apply exlCopy; first | refine st_copyW _ rJ rE rK rE rD rJ rE rJ (fun zs hzs => ?_) | refine st_copyS _ rJ rJ rK rE rD rJ rE rJ rO rO (fun zs hzs => ?_)) | refine st_sliceB rJ rJ rJ rJ rJ rJ rJ rL rE rE rJ (fun g => ?_) | refine st_slice1I rJ rJ rJ rJ rJ rJ (fun g => ?_) | refine st_slice1B rJ rJ rJ rJ rJ rJ rO rO (fun g => ?_) | refine st_slice1S rJ rJ rJ rJ rJ rJ (fun g => ?_) | refine st_slice2B rJ rJ rJ rJ rJ rJ rJ rO rO rO rO (fun g => ?_) | (apply exlConv; first | refine st_bytes rJ rJ rJ rJ rJ rO (fun v o => ?_) | refine st_mark _ rJ rJ rK rJ rJ rJ ?_) | refine st_clear _ (0 : UInt8) rJ rK rJ rJ rJ rJ rJ rO ?_ | refine st_clearT _ rJ rK rO rJ rJ rO rE ?_ | (apply exlAppend; first | refine st_app0 rJ rJ rE rD rJ rE rJ rE rJ rJ rJ rO (fun v o => ?_) | refine st_app _ rJ rE rK rE rD rJ rE rJ rE rJ rJ rJ rO (fun v o => ?_) | refine st_shift _ rJ rJ rJ rK rO rJ rJ rJ rO rO rE ?_)) | (refine Ex.cond_d rJ (fun h => ?_) (fun h => ?_) <;> try (exfalso; omega))))
      (refine Ex.mixA 14 _ rfl (by kernel_rfl) (Fac.refl _) ?_; (repeat' (first | refine mx_val rJ rJ rJ rV ?_ | refine mx_nil ?_ | (first | refine mx_gskip rJ rJ rJ rJ ?_ | refine mx_gtake rJ rJ rJ ?_ | refine mx_gskipU rJ rJ rJ ?_) | (first | refine mx_slice1T rJ rJ rJ rJ (fun g => ?_) | refine mx_slice1I rJ rJ rJ rJ rJ rJ (fun g => ?_) | refine mx_slice1B rJ rJ rJ rJ rJ rJ rO rO (fun g => ?_) | refine mx_slice1S rJ rJ rJ rJ rJ rJ (fun g => ?_) | refine mx_slice2B rJ rJ rJ rJ rJ rJ rJ rO rO rO rO (fun g => ?_) | refine mx_alloc rJ rE (fun g => ?_) | refine mx_boxA rJ rJ (fun g => ?_) | refine mx_slice0 rJ rJ rJ rJ (fun g => ?_)) | (refine mx_gsplit rJ rJ rJ (fun h => ?_) (fun h => ?_) <;> try (exfalso; omega)) | (refine mx_act rJ rJ rJ ?_; (first | (apply exlCopy; first | refine st_copyW _ rJ rE rK rE rD rJ rE rJ (fun zs hzs => ?_) | refine st_copyS _ rJ rJ rK rE rD rJ rE rJ rO rO (fun zs hzs => ?_)) | (apply exlAppend; first | refine st_app0 rJ rJ rE rD rJ rE rJ rE rJ rJ rJ rO (fun v o => ?_) | refine st_app _ rJ rE rK rE rD rJ rE rJ rE rJ rJ rJ rO (fun v o => ?_) | refine st_shift _ rJ rJ rJ rK rO rJ rJ rJ rO rO rE ?_)); refine ExL.nil ?_; refine mxEnd_n rF ?_))))
      refine mx_val rJ rJ rJ (vl_loadBA (xs := hv) 1 rJ rJ rJ rJ rJ hR) ?_
      (repeat' (first | refine mx_val rJ rJ rJ rV ?_ | refine mx_nil ?_ | (first | refine mx_gskip rJ rJ rJ rJ ?_ | refine mx_gtake rJ rJ rJ ?_ | refine mx_gskipU rJ rJ rJ ?_) | (first | refine mx_slice1T rJ rJ rJ rJ (fun g => ?_) | refine mx_slice1I rJ rJ rJ rJ rJ rJ (fun g => ?_) | refine mx_slice1B rJ rJ rJ rJ rJ rJ rO rO (fun g => ?_) | refine mx_slice1S rJ rJ rJ rJ rJ rJ (fun g => ?_) | refine mx_slice2B rJ rJ rJ rJ rJ rJ rJ rO rO rO rO (fun g => ?_) | refine mx_alloc rJ rE (fun g => ?_) | refine mx_boxA rJ rJ (fun g => ?_) | refine mx_slice0 rJ rJ rJ rJ (fun g => ?_)) | (refine mx_gsplit rJ rJ rJ (fun h => ?_) (fun h => ?_) <;> try (exfalso; omega)) | (refine mx_act rJ rJ rJ ?_; (first | (apply exlCopy; first | refine st_copyW _ rJ rE rK rE rD rJ rE rJ (fun zs hzs => ?_) | refine st_copyS _ rJ rJ rK rE rD rJ rE rJ rO rO (fun zs hzs => ?_)) | (apply exlAppend; first | refine st_app0 rJ rJ rE rD rJ rE rJ rE rJ rJ rJ rO (fun v o => ?_) | refine st_app _ rJ rE rK rE rD rJ rE rJ rE rJ rJ rJ rO (fun v o => ?_) | refine st_shift _ rJ rJ rJ rK rO rJ rJ rJ rO rO rE ?_)); refine ExL.nil ?_; refine mxEnd_n rF ?_)))
      refine mx_val rJ rJ rJ (vl_loadBA (xs := hv) 1 rJ rJ rJ rJ rJ hF) ?_
      (repeat' (first | refine mx_val rJ rJ rJ rV ?_ | refine mx_nil ?_ | (first | refine mx_gskip rJ rJ rJ rJ ?_ | refine mx_gtake rJ rJ rJ ?_ | refine mx_gskipU rJ rJ rJ ?_) | (first | refine mx_slice1T rJ rJ rJ rJ (fun g => ?_) | refine mx_slice1I rJ rJ rJ rJ rJ rJ (fun g => ?_) | refine mx_slice1B rJ rJ rJ rJ rJ rJ rO rO (fun g => ?_) | refine mx_slice1S rJ rJ rJ rJ rJ rJ (fun g => ?_) | refine mx_slice2B rJ rJ rJ rJ rJ rJ rJ rO rO rO rO (fun g => ?_) | refine mx_alloc rJ rE (fun g => ?_) | refine mx_boxA rJ rJ (fun g => ?_) | refine mx_slice0 rJ rJ rJ rJ (fun g => ?_)) | (refine mx_gsplit rJ rJ rJ (fun h => ?_) (fun h => ?_) <;> try (exfalso; omega)) | (refine mx_act rJ rJ rJ ?_; (first | (apply exlCopy; first | refine st_copyW _ rJ rE rK rE rD rJ rE rJ (fun zs hzs => ?_) | refine st_copyS _ rJ rJ rK rE rD rJ rE rJ rO rO (fun zs hzs => ?_)) | (apply exlAppend; first | refine st_app0 rJ rJ rE rD rJ rE rJ rE rJ rJ rJ rO (fun v o => ?_) | refine st_app _ rJ rE rK rE rD rJ rE rJ rE rJ rJ rJ rO (fun v o => ?_) | refine st_shift _ rJ rJ rJ rK rO rJ rJ rJ rO rO rE ?_)); refine ExL.nil ?_; refine mxEnd_n rF ?_)))
      (refine mx_act rJ rJ rJ ?_; refine st_callIs [] rJ Try.call41 rE rJ (rjoin_F (hv[((l[i]'hlt).r % 5).toNat]'hR) (hv[((l[i]'hlt).from_ % 5).toNat]'hF) _) ?_)
      rintro _ _ ⟨rfl, rfl⟩
      (refine ExL.nil ?_; refine mxEnd_n rF ?_; (repeat' (first | refine mx_val rJ rJ rJ rV ?_ | refine mx_nil ?_ | (first | refine mx_gskip rJ rJ rJ rJ ?_ | refine mx_gtake rJ rJ rJ ?_ | refine mx_gskipU rJ rJ rJ ?_) | (first | refine mx_slice1T rJ rJ rJ rJ (fun g => ?_) | refine mx_slice1I rJ rJ rJ rJ rJ rJ (fun g => ?_) | refine mx_slice1B rJ rJ rJ rJ rJ rJ rO rO (fun g => ?_) | refine mx_slice1S rJ rJ rJ rJ rJ rJ (fun g => ?_) | refine mx_slice2B rJ rJ rJ rJ rJ rJ rJ rO rO rO rO (fun g => ?_) | refine mx_alloc rJ rE (fun g => ?_) | refine mx_boxA rJ rJ (fun g => ?_) | refine mx_slice0 rJ rJ rJ rJ (fun g => ?_)) | (refine mx_gsplit rJ rJ rJ (fun h => ?_) (fun h => ?_) <;> try (exfalso; omega)) | (refine mx_act rJ rJ rJ ?_; (first | (apply exlCopy; first | refine st_copyW _ rJ rE rK rE rD rJ rE rJ (fun zs hzs => ?_) | refine st_copyS _ rJ rJ rK rE rD rJ rE rJ rO rO (fun zs hzs => ?_)) | (apply exlAppend; first | refine st_app0 rJ rJ rE rD rJ rE rJ rE rJ rJ rJ rO (fun v o => ?_) | refine st_app _ rJ rE rK rE rD rJ rE rJ rE rJ rJ rJ rO (fun v o => ?_) | refine st_shift _ rJ rJ rJ rK rO rJ rJ rJ rO rO rE ?_)); refine ExL.nil ?_; refine mxEnd_n rF ?_))))
      (repeat' (first | refine ExL.val rJ rJ rJ rV ?_ | (first | refine Ex.seq ?_ | refine Ex.region ?_ | refine ExL.nil ?_ | refine thn_n ?_ | refine Ex.cond_t rJ ?_ | refine Ex.cond_f rJ ?_ | refine Ex.skip ?_ | refine Ex.block ?_ | refine Ex.exit ?_ | refine Ex.ret ?_ | refine thn_exit ?_ | refine thn_ret ?_ | refine inb_n ?_ | refine inb_hit rJ ?_ | refine inb_miss rJ ?_ | refine inb_ret ?_ | refine rnd_exit ?_ | refine rnd_ret ?_ | refine meet_ret ?_ | refine meet_exit ?_) | (apply exlGuard; first | refine ExL.gskip rJ rJ rJ rJ rJ rJ ?_ | refine ExL.gtake rJ rJ rJ rJ ?_ | refine ExL.gskipU rJ rJ rJ rJ ?_ | (refine ExL.gsplit rJ rJ rJ (fun h => ?_) (fun h => ?_) <;> try (exfalso; omega))) | (first | refine st_new_ rJ rE (fun g => ?_) | refine st_boxA rJ rJ (fun g => ?_) | refine st_box1 rJ rE rN (fun g => ?_) | (apply exlStore; first | refine st_store1_ _ rJ rK rE rN rJ rJ rE rE ?_ | refine st_storeW_ _ rJ rK rJ rC rJ rJ rJ rE ?_ | refine st_storeR _ rJ rK rJ rE rJ rJ rE ?_ | refine st_storeA_ _ rJ rK rJ rC rJ rJ rJ rE rE ?_ | refine st_storeB _ rJ rJ rO rO rK rJ rO ?_ | refine st_storeG _ rJ rK rE rN rJ rO (fun cs hcs => ?_)) | refine st_slice0 rJ rJ rJ rJ (fun g => ?_) | refine st_slice1T rJ rJ rJ rJ (fun g => ?_) | refine st_makeT rJ rJ rJ rJ rE rJ rO rO (fun v o => ?_) | (apply exlCopy; first | refine st_copyW _ rJ rE rK rE rD rJ rE rJ (fun zs hzs => ?_) | refine st_copyS _ rJ rJ rK rE rD rJ rE rJ rO rO (fun zs hzs => ?_)) | refine st_sliceB rJ rJ rJ rJ rJ rJ rJ rL rE rE rJ (fun g => ?_) | refine st_slice1I rJ rJ rJ rJ rJ rJ (fun g => ?_) | refine st_slice1B rJ rJ rJ rJ rJ rJ rO rO (fun g => ?_) | refine st_slice1S rJ rJ rJ rJ rJ rJ (fun g => ?_) | refine st_slice2B rJ rJ rJ rJ rJ rJ rJ rO rO rO rO (fun g => ?_) | (apply exlConv; first | refine st_bytes rJ rJ rJ rJ rJ rO (fun v o => ?_) | refine st_mark _ rJ rJ rK rJ rJ rJ ?_) | refine st_clear _ (0 : UInt8) rJ rK rJ rJ rJ rJ rJ rO ?_ | refine st_clearT _ rJ rK rO rJ rJ rO rE ?_ | (apply exlAppend; first | refine st_app0 rJ rJ rE rD rJ rE rJ rE rJ rJ rJ rO (fun v o => ?_) | refine st_app _ rJ rE rK rE rD rJ rE rJ rE rJ rJ rJ rO (fun v o => ?_) | refine st_shift _ rJ rJ rJ rK rO rJ rJ rJ rO rO rE ?_)) | (refine Ex.cond_d rJ (fun h => ?_) (fun h => ?_) <;> try (exfalso; omega))))
      refine st_storeBA (xs := hv) 1 rJ rJ rJ rJ rJ hR rE ?_
      (repeat' (first | refine ExL.val rJ rJ rJ rV ?_ | (first | refine Ex.seq ?_ | refine Ex.region ?_ | refine ExL.nil ?_ | refine thn_n ?_ | refine Ex.cond_t rJ ?_ | refine Ex.cond_f rJ ?_ | refine Ex.skip ?_ | refine Ex.block ?_ | refine Ex.exit ?_ | refine Ex.ret ?_ | refine thn_exit ?_ | refine thn_ret ?_ | refine inb_n ?_ | refine inb_hit rJ ?_ | refine inb_miss rJ ?_ | refine inb_ret ?_ | refine rnd_exit ?_ | refine rnd_ret ?_ | refine meet_ret ?_ | refine meet_exit ?_) | (apply exlGuard; first | refine ExL.gskip rJ rJ rJ rJ rJ rJ ?_ | refine ExL.gtake rJ rJ rJ rJ ?_ | refine ExL.gskipU rJ rJ rJ rJ ?_ | (refine ExL.gsplit rJ rJ rJ (fun h => ?_) (fun h => ?_) <;> try (exfalso; omega))) | (first | refine st_new_ rJ rE (fun g => ?_) | refine st_boxA rJ rJ (fun g => ?_) | refine st_box1 rJ rE rN (fun g => ?_) | (apply exlStore; first | refine st_store1_ _ rJ rK rE rN rJ rJ rE rE ?_ | refine st_storeW_ _ rJ rK rJ rC rJ rJ rJ rE ?_ | refine st_storeR _ rJ rK rJ rE rJ rJ rE ?_ | refine st_storeA_ _ rJ rK rJ rC rJ rJ rJ rE rE ?_ | refine st_storeB _ rJ rJ rO rO rK rJ rO ?_ | refine st_storeG _ rJ rK rE rN rJ rO (fun cs hcs => ?_)) | refine st_slice0 rJ rJ rJ rJ (fun g => ?_) | refine st_slice1T rJ rJ rJ rJ (fun g => ?_) | refine st_makeT rJ rJ rJ rJ rE rJ rO rO (fun v o => ?_) | (apply exlCopy; first | refine st_copyW _ rJ rE rK rE rD rJ rE rJ (fun zs hzs => ?_) | refine st_copyS _ rJ rJ rK rE rD rJ rE rJ rO rO (fun zs hzs => ?_)) | refine st_sliceB rJ rJ rJ rJ rJ rJ rJ rL rE rE rJ (fun g => ?_) | refine st_slice1I rJ rJ rJ rJ rJ rJ (fun g => ?_) | refine st_slice1B rJ rJ rJ rJ rJ rJ rO rO (fun g => ?_) | refine st_slice1S rJ rJ rJ rJ rJ rJ (fun g => ?_) | refine st_slice2B rJ rJ rJ rJ rJ rJ rJ rO rO rO rO (fun g => ?_) | (apply exlConv; first | refine st_bytes rJ rJ rJ rJ rJ rO (fun v o => ?_) | refine st_mark _ rJ rJ rK rJ rJ rJ ?_) | refine st_clear _ (0 : UInt8) rJ rK rJ rJ rJ rJ rJ rO ?_ | refine st_clearT _ rJ rK rO rJ rJ rO rE ?_ | (apply exlAppend; first | refine st_app0 rJ rJ rE rD rJ rE rJ rE rJ rJ rJ rO (fun v o => ?_) | refine st_app _ rJ rE rK rE rD rJ rE rJ rE rJ rJ rJ rO (fun v o => ?_) | refine st_shift _ rJ rJ rJ rK rO rJ rJ rJ rO rO rE ?_)) | (refine Ex.cond_d rJ (fun h => ?_) (fun h => ?_) <;> try (exfalso; omega))))
      exact rnd_n ⟨l.length - (i + 1), _, by omega, rB, i + 1, v3, _, by omega, rfl, hst.symm, by rw [← hst]; simpa using hk2, o3, lcons rfl (lcons (vint (by omega)) rfl), rfl⟩
  · obtain rfl : i = l.length := by omega
    rw [List.take_length] at hs
    have : out = makeP l := by unfold makeP; rw [← hs]
    subst this
    (repeat' (first | refine ExL.val rJ rJ rJ rV ?_ | (first | refine Ex.seq ?_ | refine Ex.region ?_ | refine ExL.nil ?_ | refine thn_n ?_ | refine Ex.cond_t rJ ?_ | refine Ex.cond_f rJ ?_ | refine Ex.skip ?_ | refine Ex.block ?_ | refine Ex.exit ?_ | refine Ex.ret ?_ | refine thn_exit ?_ | refine thn_ret ?_ | refine inb_n ?_ | refine inb_hit rJ ?_ | refine inb_miss rJ ?_ | refine inb_ret ?_ | refine rnd_exit ?_ | refine rnd_ret ?_ | refine meet_ret ?_ | refine meet_exit ?_) | (apply exlGuard; first | refine ExL.gskip rJ rJ rJ rJ rJ rJ ?_ | refine ExL.gtake rJ rJ rJ rJ ?_ | refine ExL.gskipU rJ rJ rJ rJ ?_ | (refine ExL.gsplit rJ rJ rJ (fun h => ?_) (fun h => ?_) <;> try (exfalso; omega))) | (first | refine st_new_ rJ rE (fun g => ?_) | refine st_boxA rJ rJ (fun g => ?_) | refine st_box1 rJ rE rN (fun g => ?_) | (apply exlStore; first | refine st_store1_ _ rJ rK rE rN rJ rJ rE rE ?_ | refine st_storeW_ _ rJ rK rJ rC rJ rJ rJ rE ?_ | refine st_storeR _ rJ rK rJ rE rJ rJ rE ?_ | refine st_storeA_ _ rJ rK rJ rC rJ rJ rJ rE rE ?_ | refine st_storeB _ rJ rJ rO rO rK rJ rO ?_ | refine st_storeG _ rJ rK rE rN rJ rO (fun cs hcs => ?_)) | refine st_slice0 rJ rJ rJ rJ (fun g => ?_) | refine st_slice1T rJ rJ rJ rJ (fun g => ?_) | refine st_makeT rJ rJ rJ rJ rE rJ rO rO (fun v o => ?_) | (apply exlCopy; first | refine st_copyW _ rJ rE rK rE rD rJ rE rJ (fun zs hzs => ?_) | refine st_copyS _ rJ rJ rK rE rD rJ rE rJ rO rO (fun zs hzs => ?_)) | refine st_sliceB rJ rJ rJ rJ rJ rJ rJ rL rE rE rJ (fun g => ?_) | refine st_slice1I rJ rJ rJ rJ rJ rJ (fun g => ?_) | refine st_slice1B rJ rJ rJ rJ rJ rJ rO rO (fun g => ?_) | refine st_slice1S rJ rJ rJ rJ rJ rJ (fun g => ?_) | refine st_slice2B rJ rJ rJ rJ rJ rJ rJ rO rO rO rO (fun g => ?_) | (apply exlConv; first | refine st_bytes rJ rJ rJ rJ rJ rO (fun v o => ?_) | refine st_mark _ rJ rJ rK rJ rJ rJ ?_) | refine st_clear _ (0 : UInt8) rJ rK rJ rJ rJ rJ rJ rO ?_ | refine st_clearT _ rJ rK rO rJ rJ rO rE ?_ | (apply exlAppend; first | refine st_app0 rJ rJ rE rD rJ rE rJ rE rJ rJ rJ rO (fun v o => ?_) | refine st_app _ rJ rE rK rE rD rJ rE rJ rE rJ rJ rJ rO (fun v o => ?_) | refine st_shift _ rJ rJ rJ rK rO rJ rJ rJ rO rO rE ?_)) | (refine Ex.cond_d rJ (fun h => ?_) (fun h => ?_) <;> try (exfalso; omega))))
    (first | refine fin_ret rS ?_ | refine fin_norm rS ?_)
    exact ⟨_, rB, o3, rfl⟩
end Go.Proofs.Ytmjpdibjdgjhgaa
/- What a past's clock is at most. No condition. -/
namespace Go.Proofs.Ytmjpdibjdgjhgaa
open Go.RowKit
set_option linter.unusedSimpArgs false
set_option linter.unusedVariables false
theorem upTo_le (l : List Ev) (r b : Int) : upTo l r b ≤ b + l.length := by
  have h := upTo_spec l r b
  obtain ⟨k, hk⟩ : ∃ k : Nat, (k : Int) = upTo l r b - b := ⟨(upTo l r b - b).toNat, by have := h.1; omega⟩
  have h1 : ((List.range k).map fun (j : Nat) => (⟨r, b + 1 + j⟩ : Mk)).Nodup := by
    unfold List.Nodup
    rw [List.pairwise_map]
    refine List.nodup_range.imp fun hne he => hne ?_
    simp only [Mk.mk.injEq, true_and] at he
    omega
  have h2 := h1.length_le_of_subset (l₂ := marks l) (fun x hx => by
    obtain ⟨j, hj, rfl⟩ := List.mem_map.1 hx
    have := List.mem_range.1 hj
    exact h.2.1 _ (by omega) (by omega))
  simp [marks] at h2
  omega
theorem clockP_bd (l : List Ev) {i : Nat} (h : i < 5) : 0 ≤ (clockP l).get i ∧ (clockP l).get i ≤ l.length := by
  refine ⟨clockP_pos l h, ?_⟩
  have h1 := (clockP_upTo l h).unique (upTo_spec l i 0)
  have h2 := upTo_le l i 0
  omega
theorem clock_nil : clockP [] = Clk.zero := clockP_eq fun i hi => by
  rw [zero_get]
  exact ⟨Int.le_refl _, fun k h1 h2 => by omega, by simp [marks]⟩
end Go.Proofs.Ytmjpdibjdgjhgaa
/- Sorting by stamps, in plain words: what is inserted, one by one; two sorted rows as one. No condition. -/
namespace Go.Proofs.Ytmjpdibjdgjhgaa
open Go.RowKit
set_option linter.unusedSimpArgs false
set_option linter.unusedVariables false
def stLt (a b : Ev) : Bool := decide (a.h < b.h ∨ (a.h = b.h ∧ a.r < b.r))
theorem stLt_iff (a b : Ev) : stLt a b = true ↔ a.h < b.h ∨ (a.h = b.h ∧ a.r < b.r) := by simp [stLt]
theorem stLt_f (a b : Ev) : stLt a b = false ↔ ¬ (a.h < b.h ∨ (a.h = b.h ∧ a.r < b.r)) := by simp [stLt]
theorem stLt_trans {a b c : Ev} (h : stLt a b = true) (k : stLt b c = true) : stLt a c = true := by
  rw [stLt_iff] at h k ⊢; omega
theorem stLt_ge {a b c : Ev} (h : stLt a b = false) (k : stLt b c = false) : stLt a c = false := by
  rw [stLt_f] at h k ⊢; omega
theorem stLt_mid {a b c : Ev} (h : stLt a c = true) (k : stLt b c = false) : stLt a b = true := by
  rw [stLt_iff] at h ⊢; rw [stLt_f] at k; omega
theorem stLt_asym {a b : Ev} (h : stLt a b = true) : stLt b a = false := by
  rw [stLt_iff] at h; rw [stLt_f]; omega
theorem stLt_irr (a : Ev) : stLt a a = false := by rw [stLt_f]; omega
def ins (x : Ev) : List Ev → List Ev
  | [] => [x]
  | y :: l => if stLt x y = true then x :: y :: l else y :: ins x l
def sortP (l : List Ev) : List Ev := l.foldl (fun acc x => ins x acc) []
theorem sortP_snoc (l : List Ev) (x : Ev) : sortP (l ++ [x]) = ins x (sortP l) := by unfold sortP; rw [List.foldl_append]; rfl
theorem ins_perm (x : Ev) : ∀ l : List Ev, (ins x l).Perm (x :: l)
  | [] => List.Perm.refl _
  | y :: l => by
    unfold ins
    split
    · exact List.Perm.refl _
    · exact ((ins_perm x l).cons y).trans (List.Perm.swap ..)
theorem sortP_perm (l : List Ev) : (sortP l).Perm l := by
  rw [← List.reverse_reverse l]
  generalize l.reverse = m
  induction m with
  | nil => exact List.Perm.refl _
  | cons x m ih =>
    rw [List.reverse_cons, sortP_snoc]
    exact ((ins_perm x _).trans (ih.cons x)).trans (List.perm_append_singleton x _).symm
/-- None is less than one ahead of it. -/
def Srt (l : List Ev) : Prop := l.Pairwise fun a b => stLt b a = false
theorem ins_srt (x : Ev) : ∀ {l : List Ev}, Srt l → Srt (ins x l)
  | [], _ => by simp [Srt, ins]
  | y :: l, h => by
    obtain ⟨h1, h2⟩ := List.pairwise_cons.1 h
    unfold ins
    split
    · rename_i hxy
      refine List.pairwise_cons.2 ⟨fun z hz => ?_, h⟩
      rcases List.mem_cons.1 hz with rfl | hz
      · exact stLt_asym hxy
      · exact stLt_ge (h1 z hz) (stLt_asym hxy)
    · rename_i hxy
      refine List.pairwise_cons.2 ⟨fun z hz => ?_, ins_srt x h2⟩
      rcases List.mem_cons.1 ((ins_perm x l).mem_iff.1 hz) with rfl | hz
      · simpa using hxy
      · exact h1 z hz
theorem sortP_srt (l : List Ev) : Srt (sortP l) := by
  rw [← List.reverse_reverse l]
  generalize l.reverse = m
  induction m with
  | nil => exact List.Pairwise.nil
  | cons x m ih =>
    rw [List.reverse_cons, sortP_snoc]
    exact ins_srt x ih
/-- Where one stands that is inserted. -/
theorem ins_at (x : Ev) : ∀ {pre suf : List Ev}, (∀ y ∈ pre, stLt x y = false) → (∀ y, suf.head? = some y → stLt x y = true) → ins x (pre ++ suf) = pre ++ x :: suf
  | [], [], _, _ => rfl
  | [], y :: l, _, h => by
    show ins x (y :: l) = _
    unfold ins
    rw [if_pos (h y rfl)]
    rfl
  | y :: l, suf, h1, h2 => by
    show ins x (y :: (l ++ suf)) = _
    unfold ins
    rw [if_neg (by rw [h1 y (by simp)]; simp), ins_at x (fun z hz => h1 z (List.mem_cons_of_mem _ hz)) h2]
    rfl
/-- What is sorted stays so. -/
theorem sortP_id {l : List Ev} (h : Srt l) : sortP l = l := by
  have key : ∀ m : List Ev, Srt m.reverse → sortP m.reverse = m.reverse := by
    intro m
    induction m with
    | nil => intro _; rfl
    | cons x m ih =>
      intro h
      rw [List.reverse_cons] at h ⊢
      obtain ⟨h1, _, h3⟩ := List.pairwise_append.1 h
      rw [sortP_snoc, ih h1]
      have := ins_at x (pre := m.reverse) (suf := []) (fun y hy => h3 y hy x (by simp)) (by simp)
      simpa using this
  have := key l.reverse (by simpa using h)
  simpa using this
def mrg : List Ev → List Ev → List Ev
  | [], r => r
  | a :: l, [] => a :: l
  | a :: l, b :: r => if stLt b a = true then b :: mrg (a :: l) r else a :: mrg l (b :: r)
theorem mrg_nil_r (l : List Ev) : mrg l [] = l := by cases l <;> simp [mrg]
theorem mrg_nil_l (l : List Ev) : mrg [] l = l := by cases l <;> simp [mrg]
theorem mrg_r (R1 L2 R2 : List Ev) (h : ∀ a ∈ L2, ∀ b ∈ R1, stLt b a = true) : mrg L2 (R1 ++ R2) = R1 ++ mrg L2 R2 := by
  induction R1 with
  | nil => rfl
  | cons b R1 ih =>
    have ih := ih fun a ha b hb => h a ha b (List.mem_cons_of_mem _ hb)
    cases L2 with
    | nil => rw [mrg_nil_l, mrg_nil_l]
    | cons a L2 =>
      show mrg (a :: L2) (b :: (R1 ++ R2)) = _
      rw [mrg, if_pos (h a (by simp) b (by simp)), ih]
      rfl
theorem mrg_l (L1 L2 R2 : List Ev) (h : ∀ a ∈ L1, ∀ b ∈ R2, stLt b a = false) : mrg (L1 ++ L2) R2 = L1 ++ mrg L2 R2 := by
  induction L1 with
  | nil => rfl
  | cons a L1 ih =>
    have ih := ih fun a ha b hb => h a (List.mem_cons_of_mem _ ha) b hb
    cases R2 with
    | nil => rw [mrg_nil_r, mrg_nil_r]
    | cons b R2 =>
      show mrg (a :: (L1 ++ L2)) (b :: R2) = _
      rw [mrg, if_neg (by rw [h a (by simp) b (by simp)]; simp), ih]
      rfl
/-- Two rows, parted so that what is behind is later, are merged part by part. -/
theorem mrg_app : ∀ (L1 R1 L2 R2 : List Ev), (∀ a ∈ L1, ∀ b ∈ R2, stLt b a = false) → (∀ a ∈ L2, ∀ b ∈ R1, stLt b a = true) → mrg (L1 ++ L2) (R1 ++ R2) = mrg L1 R1 ++ mrg L2 R2
  | [], R1, L2, R2, h1, h2 => by rw [mrg_nil_l]; exact mrg_r R1 L2 R2 h2
  | a :: L1, [], L2, R2, h1, h2 => by rw [mrg_nil_r]; exact mrg_l (a :: L1) L2 R2 h1
  | a :: L1, b :: R1, L2, R2, h1, h2 => by
    show mrg (a :: (L1 ++ L2)) (b :: (R1 ++ R2)) = _
    rw [mrg, mrg]
    split
    · have := mrg_app (a :: L1) R1 L2 R2 h1 (fun x hx y hy => h2 x hx y (List.mem_cons_of_mem _ hy))
      show b :: mrg (a :: L1 ++ L2) (R1 ++ R2) = _
      rw [this]; rfl
    · have := mrg_app L1 (b :: R1) L2 R2 (fun x hx y hy => h1 x (List.mem_cons_of_mem _ hx) y hy) h2
      show a :: mrg (L1 ++ L2) (b :: R1 ++ R2) = _
      rw [this]; rfl
termination_by L1 R1 => L1.length + R1.length
theorem ins_mrg (x : Ev) : ∀ (X Y : List Ev), ins x (mrg X Y) = mrg X (ins x Y)
  | [], Y => by rw [mrg_nil_l, mrg_nil_l]
  | a :: X, [] => by
    rw [mrg_nil_r]
    show ins x (a :: X) = mrg (a :: X) [x]
    unfold ins
    rw [mrg, mrg_nil_r]
    split
    · rfl
    · have := ins_mrg x X []
      rw [mrg_nil_r] at this
      rw [this]; rfl
  | a :: X, b :: Y => by
    by_cases hba : stLt b a = true
    · rw [mrg, if_pos hba]
      by_cases hxb : stLt x b = true
      · have e1 : ins x (b :: mrg (a :: X) Y) = x :: b :: mrg (a :: X) Y := by unfold ins; rw [if_pos hxb]
        have e2 : ins x (b :: Y) = x :: b :: Y := by unfold ins; rw [if_pos hxb]
        rw [e1, e2, mrg, if_pos (stLt_trans hxb hba), mrg, if_pos hba]
      · have e1 : ins x (b :: mrg (a :: X) Y) = b :: ins x (mrg (a :: X) Y) := by conv => lhs; unfold ins; rw [if_neg hxb]
        have e2 : ins x (b :: Y) = b :: ins x Y := by conv => lhs; unfold ins; rw [if_neg hxb]
        rw [e1, e2, ins_mrg x (a :: X) Y, mrg, if_pos hba]
    · rw [mrg, if_neg hba]
      by_cases hxa : stLt x a = true
      · have hxb : stLt x b = true := stLt_mid (c := a) hxa (by simpa using hba) |> fun h => h
        have e1 : ins x (a :: mrg X (b :: Y)) = x :: a :: mrg X (b :: Y) := by unfold ins; rw [if_pos hxa]
        have e2 : ins x (b :: Y) = x :: b :: Y := by unfold ins; rw [if_pos hxb]
        rw [e1, e2, mrg, if_pos hxa, mrg, if_neg hba]
      · have e1 : ins x (a :: mrg X (b :: Y)) = a :: ins x (mrg X (b :: Y)) := by conv => lhs; unfold ins; rw [if_neg hxa]
        rw [e1, ins_mrg x X (b :: Y)]
        by_cases hxb : stLt x b = true
        · have e2 : ins x (b :: Y) = x :: b :: Y := by unfold ins; rw [if_pos hxb]
          rw [e2]
          conv => rhs; rw [mrg, if_neg hxa]
        · have e2 : ins x (b :: Y) = b :: ins x Y := by conv => lhs; unfold ins; rw [if_neg hxb]
          rw [e2]
          conv => rhs; rw [mrg, if_neg hba]
termination_by X Y => X.length + Y.length
theorem sortP_app (A B : List Ev) : sortP (A ++ B) = mrg (sortP A) (sortP B) := by
  rw [← List.reverse_reverse B]
  generalize B.reverse = m
  induction m with
  | nil => simp [mrg_nil_r, sortP]
  | cons x m ih =>
    rw [List.reverse_cons, ← List.append_assoc, sortP_snoc, ih, sortP_snoc, ins_mrg]
end Go.Proofs.Ytmjpdibjdgjhgaa
/- Many parts of memory as one; one of them in focus; fields in the midst of a block. No condition. -/
namespace Go.Proofs.Ytmjpdibjdgjhgaa
open Go.RowKit
set_option linter.unusedSimpArgs false
set_option linter.unusedVariables false
/-- All of these, each in a part of its own. -/
def Star : List Assn → Assn
  | [], _ => True
  | A :: As, h => ∃ h1 h2 : Frag, h = h1.add h2 ∧ h1.disj h2 ∧ A h1 ∧ Star As h2
theorem frag_assoc {a b c : Frag} : (a.add b).add c = a.add (b.add c) := by
  funext n
  unfold Frag.add
  cases a n <;> rfl
theorem Star.open1 {A : Assn} {As : List Assn} (L : List Assn) : Sub (A :: Star As :: L) (Star (A :: As) :: L) := fun w F ⟨h, ⟨h1, h2, he, hd, a, rs⟩, d, s⟩ => by
  subst he
  have d1 : h1.disj F := fun n => by
    rcases d n with x | x
    · left
      unfold Frag.add at x
      cases hh : h1 n with
      | none => rfl
      | some o => rw [hh] at x; cases x
    · exact .inr x
  have d2 : h2.disj F := fun n => by
    rcases d n with x | x
    · rcases hd n with y | y
      · left
        unfold Frag.add at x
        rw [y] at x
        exact x
      · exact .inl y
    · exact .inr x
  refine ⟨h1, a, d1, h2, rs, ?_, ?_⟩
  · rw [Frag.disj_add]; exact ⟨Frag.disj_symm hd, d2⟩
  · rw [← Frag.add_left_comm hd, ← frag_assoc]; exact s
theorem Star.close1 {A : Assn} {As : List Assn} (L : List Assn) : Sub (Star (A :: As) :: L) (A :: Star As :: L) := fun w F ⟨h1, a, d, h2, rs, d2, s⟩ => by
  rw [Frag.disj_add] at d2
  refine ⟨h1.add h2, ⟨h1, h2, rfl, Frag.disj_symm d2.1, a, rs⟩, ?_, ?_⟩
  · intro n
    rcases d n with x | x
    · rcases d2.2 n with y | y
      · left; unfold Frag.add; rw [x]; exact y
      · exact .inr y
    · exact .inr x
  · rw [frag_assoc, Frag.add_left_comm (Frag.disj_symm d2.1)]; exact s
theorem Star.nil (L : List Assn) : Sub (Star [] :: L) L := fun w F s => by
  refine ⟨fun _ => none, trivial, fun n => Or.inl rfl, ?_⟩
  have : Frag.add (fun _ => none) F = F := by funext n; rfl
  rw [this]; exact s
/-- One of them in front. -/
theorem Star.focus : ∀ {As : List Assn} {i : Nat} {A : Assn} (L : List Assn), As[i]? = some A → Sub (A :: Star (As.eraseIdx i) :: L) (Star As :: L)
  | [], _, _, _, h => by simp at h
  | B :: As, 0, A, L, h => by
    simp at h; subst h; exact Star.open1 L
  | B :: As, i + 1, A, L, h => by
    simp at h
    have h1 := Star.focus (As := As) (i := i) (A := A) L h
    refine Sub.trans ?_ (Star.open1 L)
    refine Sub.trans ?_ (Sub.cons B h1)
    refine Sub.trans (Sub.cons A (Star.close1 (A := B) (As := As.eraseIdx i) L)) ?_
    exact Sub.front (L := B :: A :: Star (As.eraseIdx i) :: L) 1 rfl
theorem Star.unfocus : ∀ {As : List Assn} {i : Nat} (A : Assn) (L : List Assn), i < As.length → Sub (Star (As.set i A) :: L) (A :: Star (As.eraseIdx i) :: L)
  | [], _, _, _, h => by simp at h
  | B :: As, 0, A, L, h => Star.close1 L
  | B :: As, i + 1, A, L, h => by
    have h1 := Star.unfocus (As := As) (i := i) A L (by simpa using h)
    refine Sub.trans (Star.close1 (A := B) (As := As.set i A) L) ?_
    refine Sub.trans (Sub.cons B h1) ?_
    refine Sub.trans (Sub.front (L := A :: B :: Star (As.eraseIdx i) :: L) 1 rfl) ?_
    exact Sub.cons A (Star.open1 (A := B) (As := As.eraseIdx i) L)
theorem Star.last {As : List Assn} (A : Assn) : ∀ (L : List Assn), Sub (Star (As ++ [A]) :: L) (A :: Star As :: L) := by
  induction As with
  | nil => exact fun L => Star.close1 L
  | cons B As ih =>
    intro L
    refine Sub.trans (Star.close1 (A := B) (As := As ++ [A]) L) ?_
    refine Sub.trans (Sub.cons B (ih L)) ?_
    refine Sub.trans (Sub.front (L := A :: B :: Star As :: L) 1 rfl) ?_
    exact Sub.cons A (Star.open1 L)
/-- Two as one. -/
def Two (A B : Assn) : Assn := Star [A, B]
theorem Two.opn (A B : Assn) (L : List Assn) : Sub (A :: B :: L) (Two A B :: L) :=
  Sub.trans (Sub.cons A (Sub.trans (Sub.cons B (Sub.drop _ (Sub.refl L))) (Star.open1 (A := B) (As := []) L))) (Star.open1 (A := A) (As := [B]) L)
theorem Two.cls (A B : Assn) (L : List Assn) : Sub (Two A B :: L) (A :: B :: L) :=
  Sub.trans (Star.close1 (A := A) (As := [B]) L) (Sub.cons A (Sub.trans (Star.close1 (A := B) (As := []) L) (Sub.cons B (Star.nil L))))
/-- A pointer as a thing of a slice. -/
structure Ptr where
  g : Nat
deriving DecidableEq
instance : Rep Ptr := ⟨1, fun p => [.pointer (some ⟨p.g, 0, none⟩)], by decide, fun _ => rfl, fun _ => rfl⟩
section
variable {P : Program} {n : Nat} {ops : Array Oper} {Q : Post} {f : Nat → Value} {L : List Assn} {rest : List Oper} {d : Nat} {ty : TypeId} {pos : String} {af : Array Edge} {gd : Option (Nat × Bool)}
variable {α : Type} [Rep α] {xs : List α}
theorem mid_get {pre post : List Value} {j q : Nat} (hj : j < xs.length) (hq : q < Rep.sz α) : (pre ++ cellsOf xs ++ post)[pre.length + j * Rep.sz α + q]? = (Rep.cells (xs[j]'hj))[q]? := by
  have hl := cellsOf_len xs
  have hb : j * Rep.sz α + q < xs.length * Rep.sz α := by
    have : (j + 1) * Rep.sz α ≤ xs.length * Rep.sz α := Nat.mul_le_mul_right _ (by omega)
    rw [Nat.succ_mul] at this
    omega
  rw [List.append_assoc, List.getElem?_append_right (by omega), show pre.length + j * Rep.sz α + q - pre.length = j * Rep.sz α + q by omega, List.getElem?_append_left (by rw [hl]; exact hb)]
  have := cellsOf_get1 hj
  rw [← this, List.getElem?_take, if_pos hq, List.getElem?_drop]
/-- A thing in the midst of a block, whole. -/
theorem vl_loadMA (i : Nat) {t bt : TypeId} {x : Operand} {g j o sz : Nat} {cs pre post : List Value} (xs : List α) (hx : evalF f x = .pointer (some ⟨g, o + j * sz, none⟩)) (hi : L[i]? = some (Blk g bt cs)) (he : cs = pre ++ cellsOf xs ++ post) (ho : pre.length = o) (hA : aggB P t = some true) (hm : P.cellsOf t = sz) (hsz : Rep.sz α = sz) (hj : j < xs.length) :
    Val P ⟨some d, .load t x, ty, pos, af, gd⟩ f L (.agg (Rep.cells (xs[j]'hj)).toArray) := fun F w s => by
  subst he; subst ho; subst hsz
  have := run_loadVarA (P := P) w (t := t) (a := ⟨g, pre.length + j * Rep.sz α, none⟩) (cs := Rep.cells (xs[j]'hj)) hA (by rw [hm, Rep.len]) (by rw [Rep.len]; exact Rep.pos) (fun k u hk => by
    rw [addr_add]
    have hk2 : k < Rep.sz α := by have := (List.getElem?_eq_some_iff.1 hk).1; rwa [Rep.len] at this
    exact blk_cell hi (by rw [mid_get hj hk2]; exact hk) s)
  simp [execOp, hx, Instr.loadAt, Instr.sureAddr, this]
/-- One cell of it. -/
theorem vl_loadM1 (i : Nat) {t bt : TypeId} {x : Operand} {g j o q sz : Nat} {cs pre post : List Value} {v : Value} (xs : List α) (hx : evalF f x = .pointer (some ⟨g, o + j * sz + q, none⟩)) (hi : L[i]? = some (Blk g bt cs)) (he : cs = pre ++ cellsOf xs ++ post) (ho : pre.length = o) (hA : aggB P t = some false) (hsz : Rep.sz α = sz) (hj : j < xs.length) (hq : q < sz) (hv : (Rep.cells (xs[j]'hj))[q]? = some v) :
    Val P ⟨some d, .load t x, ty, pos, af, gd⟩ f L v := fun F w s => by
  subst he; subst ho; subst hsz
  have := blk_cell hi (o := pre.length + j * Rep.sz α + q) (v := v) (by rw [mid_get hj hq]; exact hv) s
  simp [execOp, hx, Instr.loadAt, Instr.sureAddr, run_loadVar1 w hA this]
theorem mid_set {pre post : List Value} {j : Nat} (hj : j < xs.length) (a : α) : (pre ++ cellsOf xs ++ post).take (pre.length + j * Rep.sz α) ++ Rep.cells a ++ (pre ++ cellsOf xs ++ post).drop (pre.length + j * Rep.sz α + Rep.sz α) = pre ++ cellsOf (xs.set j a) ++ post := by
  have hl := cellsOf_len xs
  have hb : j * Rep.sz α + Rep.sz α ≤ xs.length * Rep.sz α := by
    have : (j + 1) * Rep.sz α ≤ xs.length * Rep.sz α := Nat.mul_le_mul_right _ (by omega)
    rwa [Nat.succ_mul] at this
  rw [← cellsOf_setA hj a, List.append_assoc pre, List.take_append, List.drop_append, List.take_of_length_le (show pre.length ≤ pre.length + j * Rep.sz α by omega), List.drop_eq_nil_of_le (show pre.length ≤ pre.length + j * Rep.sz α + Rep.sz α by omega)]
  rw [show pre.length + j * Rep.sz α - pre.length = j * Rep.sz α by omega, show pre.length + j * Rep.sz α + Rep.sz α - pre.length = j * Rep.sz α + Rep.sz α by omega, List.take_append_of_le_length (by omega), List.drop_append_of_le_length (by omega)]
  simp [List.append_assoc]
theorem st_storeMA (i : Nat) {t bt : TypeId} {x y : Operand} {g j o sz : Nat} {cs pre post : List Value} (xs : List α) {a : α} {L' : List Assn} (hx : evalF f x = .pointer (some ⟨g, o + j * sz, none⟩)) (hi : L[i]? = some (Blk g bt cs)) (he : cs = pre ++ cellsOf xs ++ post) (ho : pre.length = o) (hy : evalF f y = .agg (Rep.cells a).toArray) (hm : P.cellsOf t = sz) (hsz : Rep.sz α = sz) (hj : j < xs.length)
    (hL : L.set i (Blk g bt (pre ++ cellsOf (xs.set j a) ++ post)) = L') (h : ExL P n ops rest Q f L') : ExL P n ops (⟨none, .store t x y, ty, pos, af, none⟩ :: rest) Q f L := by
  subst he; subst ho; subst hsz
  refine st_storeA i hx hy (Rep.one a) hi (by rw [hm, Rep.len]) (by rw [Rep.len]; exact Nat.ble_eq_true_of_le (show 0 + 1 ≤ _ from Rep.pos)) (by
    rw [Rep.len]
    have hl := cellsOf_len xs
    have hb : (j + 1) * Rep.sz α ≤ xs.length * Rep.sz α := Nat.mul_le_mul_right _ (by omega)
    rw [Nat.succ_mul] at hb
    exact Nat.ble_eq_true_of_le (by simp only [List.length_append]; omega)) ?_ h
  rw [Rep.len, mid_set hj a, hL]
/-- a[:] of an array in the midst of a block. -/
theorem vl_slArrO {t e : TypeId} {x : Operand} {g o m sz : Nat} (hx : evalF f x = .pointer (some ⟨g, o, none⟩)) (hu : P.underlying t = some (.array m e)) (hs : P.cellsOf e = sz) (hp : Nat.blt 0 sz = true) (hm : Nat.blt 0 m = true) :
    Val P ⟨some d, .slice t x none none none, ty, pos, af, gd⟩ f L (.slice (some ⟨g, o, none⟩) m m) := fun F w s => by
  have hm := Nat.le_of_ble_eq_true hm
  simp [execOp, hx, Instr.sliceAt, run_underlying hu, Instr.sureAddr, Instr.sliceBounds, run_sizeOf' w hs (Nat.le_of_ble_eq_true hp), show ¬ m = 0 by omega, addr_add]
theorem mid_over {pre post : List Value} {ys : List α} (hy : ys.length ≤ xs.length) : (pre ++ cellsOf xs ++ post).take pre.length ++ cellsOf ys ++ (pre ++ cellsOf xs ++ post).drop (pre.length + (cellsOf ys).length) = pre ++ cellsOf (ys ++ xs.drop ys.length) ++ post := by
  have hl := cellsOf_len xs
  have hl2 := cellsOf_len ys
  have hb : ys.length * Rep.sz α ≤ xs.length * Rep.sz α := Nat.mul_le_mul_right _ hy
  rw [cellsOf_append, ← cellsOf_drop, List.append_assoc pre, List.take_left, List.drop_append, List.drop_eq_nil_of_le (show pre.length ≤ pre.length + (cellsOf ys).length by omega), show pre.length + (cellsOf ys).length - pre.length = (cellsOf ys).length by omega, List.drop_append_of_le_length (by omega), hl2]
  simp [List.append_assoc]
/-- copy(a[:], u), where a stands in the midst of a block. -/
theorem st_copyM (i : Nat) {dd : Option Nat} {x y : Operand} {u : Value} {t t2 e bt : TypeId} {sz g o m c : Nat} {cs pre post : List Value} (xs ys : List α) (hd : dstOk n dd = true) (hx : evalF f x = .slice (some ⟨g, o, none⟩) m c) (hi : L[i]? = some (Blk g bt cs)) (he : cs = pre ++ cellsOf xs ++ post) (ho : pre.length = o) (hm : xs.length = m) (hy : evalF f y = u) (hr : RdT L u ys) (hle : ys.length ≤ m)
    (ht : P.underlying t = some (.slice e)) (hs : P.cellsOf e = sz) (hsz : Rep.sz α = sz)
    (h : ExL P n ops rest Q (updo f dd (.int .i64 (ys.length : Nat))) (L.set i (Blk g bt (pre ++ cellsOf (ys ++ xs.drop ys.length) ++ post)))) : ExL P n ops (⟨dd, .call ⟨.builtin .copy, #[x, y], #[t, t2]⟩, ty, pos, af, none⟩ :: rest) Q f L := by
  subst he; subst ho; subst hm; subst hsz; subst hy
  have hp : 0 < Rep.sz α := Rep.pos
  refine ExL.eff rfl hd (R := fun r L' => r = .int .i64 (ys.length : Nat) ∧ L' = L.set i (Blk g bt (pre ++ cellsOf (ys ++ xs.drop ys.length) ++ post))) (fun F w s => ?_) (fun v' L' e => by obtain ⟨rfl, rfl⟩ := e; exact h)
  obtain ⟨hl, a, cap, hev, hmc, hcm, han, hcell⟩ := hr w F s
  have hmin : Nat.min ys.length xs.length = ys.length := Nat.min_eq_left hle
  have hmin2 : min ys.length xs.length = ys.length := Nat.min_eq_left hle
  cases a with
  | none =>
    have h0 : ys.length = 0 := by have := han rfl; omega
    have e0 : ys = [] := List.eq_nil_of_length_eq_zero h0
    refine ⟨_, w, _, .inl ?_, Rest.refl w, ?_, rfl, rfl⟩
    · simp [execOp, resolve, invoke, builtin, hx, hev, Builtin.copy_, run_underlying ht, Builtin.lenOf, Builtin.firstCells, run_sizeOf' w hs hp, h0, loadCells, loadCellsFrom, storeCells, goInt]
    · subst e0
      have e1 : pre ++ cellsOf ([] ++ xs.drop ([] : List α).length) ++ post = pre ++ cellsOf xs ++ post := by simp
      rw [e1, list_set_same hi]; exact s
  | some ad =>
    have hload := run_loadCells_list (P := P) w ad (cellsOf ys) (fun j u hj => hcell ad rfl j u hj)
    rw [cellsOf_len] at hload
    have hle2 : ys.length * Rep.sz α ≤ xs.length * Rep.sz α := Nat.mul_le_mul_right _ hle
    obtain ⟨w', hrun, hre, hs2⟩ := run_storeCells_blk (P := P) (cellsOf ys) 0 pre.length w L (pre ++ cellsOf xs ++ post) hi (by simp only [List.length_append, cellsOf_len]; omega) (fun v hv => cellsOf_all _ v hv) s
    rw [Nat.add_zero, mid_over hle] at hs2
    refine ⟨_, w', _, .inl ?_, hre, hs2, rfl, rfl⟩
    simp [execOp, resolve, invoke, builtin, hx, hev, Builtin.copy_, run_underlying ht, Builtin.lenOf, Builtin.firstCells, run_sizeOf' w hs hp, hmin, hmin2, hload, hrun, goInt]
/-- A thing of a row of one's own is written, whole. -/
theorem st_storeRA (r : Nat) {t e : TypeId} {x y : Operand} {v : Value} {i sz : Nat} {a : α} {L' : List Assn} (hx : evalF f x = elt v (i * sz + 0)) (hy : evalF f y = .agg (Rep.cells a).toArray) (hi : L[r]? = some (RowT v e xs)) (hm : P.cellsOf t = sz) (hsz : Rep.sz α = sz) (hj : i < xs.length)
    (hL : L.set r (RowT v e (xs.set i a)) = L') (h : ExL P n ops rest Q f L') : ExL P n ops (⟨none, .store t x y, ty, pos, af, none⟩ :: rest) Q f L := by
  subst hsz; subst hL
  have hp : 0 < Rep.sz α := Rep.pos
  refine ExL.eff rfl rfl (R := fun _ L2 => L2 = L.set r (RowT v e (xs.set i a))) (fun F w s => ?_) (fun v L2 e => by subst e; exact h)
  have hb : (i + 1) * Rep.sz α ≤ xs.length * Rep.sz α := Nat.mul_le_mul_right _ (by omega)
  rw [Nat.succ_mul] at hb
  obtain ⟨g, w', ⟨c, hv⟩, hrun, hre, hs2⟩ := row_write (P := P) (w := w) (o := i * Rep.sz α) (us := Rep.cells a) (xs' := xs.set i a) hi (by rw [Rep.len]; omega) (by rw [Rep.len]; exact hp) (Rep.one a) (by rw [Rep.len]; exact cellsOf_setA hj a) (by simp) s
  refine ⟨_, w', _, .inr ⟨?_, rfl⟩, hre, hs2, rfl⟩
  subst hv
  simp only [elt, addr_add, Nat.zero_add, Nat.add_zero] at hx
  simp [execOp, hx, hy, Instr.storeAt, Instr.sureAddr, storeVar, Value.cells, run_sizeOf' w hm hp, hrun, Rep.len]
end
end Go.Proofs.Ytmjpdibjdgjhgaa
/- Rows whose length is known without memory; one cell of a row is written. No condition. -/
namespace Go.Proofs.Ytmjpdibjdgjhgaa
open Go.RowKit
set_option linter.unusedSimpArgs false
set_option linter.unusedVariables false
/-- v is a slice of n elements that has memory: what needs none. -/
def Spt (v : Value) (n : Nat) : Prop := ∃ a c, v = .slice (some a) n c
section
variable {P : Program} {n : Nat} {ops : Array Oper} {Q : Post} {f : Nat → Value} {L : List Assn} {d : Nat} {ty : TypeId} {pos : String} {af : Array Edge} {gd : Option (Nat × Bool)} {v : Value} {q : Nat}
theorem vl_idxK {t e : TypeId} {x y : Operand} {k : IntKind} {j : Int} {sz : Nat} (hx : evalF f x = v) (hy : evalF f y = .int k j) (hu : P.underlying t = some (.slice e)) (hs : P.cellsOf e = sz) (hp : Nat.blt 0 sz = true) (hc : Spt v q) (h0 : 0 ≤ j) (h1 : j < (q : Int)) :
    Val P ⟨some d, .indexAddr t x y, ty, pos, af, gd⟩ f L (elt v (j.toNat * sz + 0)) := fun F w s => by
  obtain ⟨m, rfl⟩ := Int.eq_ofNat_of_zero_le h0
  obtain ⟨a, c, rfl⟩ := hc
  have hp := Nat.le_of_ble_eq_true hp
  have h1' : m < q := by omega
  have h1'' : (m : Int) < (q : Int) := by omega
  simp [execOp, hx, hy, Instr.indexAt, run_underlying hu, asIntOf, h1', run_sizeOf' w hs hp, elt]
theorem vl_fieldK {s : TypeId} {x : Operand} {b o fi off : Nat} (hx : evalF f x = elt v (b + o)) (hc : Spt v q) (hf : fieldOff P s fi = some off) : Val P ⟨some d, .fieldAddr s x fi, ty, pos, af, gd⟩ f L (elt v (b + (o + off))) :=
  vl_fieldE hx (by obtain ⟨a, c, h⟩ := hc; exact ⟨a, q, c, h⟩) hf
theorem vl_idxEK {t e : TypeId} {x y : Operand} {k : IntKind} {i sz o m es : Nat} {j : Int} (hx : evalF f x = elt v (i * sz + o)) (hy : evalF f y = .int k j) (hu : P.underlying t = some (.array m e)) (hs : P.cellsOf e = es) (hp : Nat.blt 0 es = true) (hc : Spt v q)
    (h0 : 0 ≤ j) (h1 : j < (m : Int)) : Val P ⟨some d, .indexAddr t x y, ty, pos, af, gd⟩ f L (elt v (i * sz + (o + j.toNat * es))) := fun F w s => by
  obtain ⟨a, c, rfl⟩ := hc
  simp [execOp, hx, hy, elt, Instr.indexAt, run_underlying hu, asIntOf, Instr.sureAddr, h0, h1, run_sizeOf' w hs (Nat.le_of_ble_eq_true hp), addr_add2, Nat.add_assoc]
theorem know_spt {α : Type} [Rep α] {c : Code} {xs : List α} (hr : RdT L v xs) (h0 : 0 < xs.length) (h : Spt v xs.length → Ex P n c Q f L) : Ex P n c Q f L := Ex.know (fun w F s => by
  obtain ⟨hl, a, c, e, hk, hm, hn, hcell⟩ := hr w F s
  cases a with
  | none => have := hn rfl; omega
  | some ad => exact ⟨ad, c, e⟩) h
end
section
variable {P : Program} {n : Nat} {ops : Array Oper} {Q : Post} {f : Nat → Value} {L : List Assn} {rest : List Oper} {ty : TypeId} {pos : String} {af : Array Edge} {α : Type} [Rep α] {xs : List α}
/-- One cell of a thing of a row of one's own is written. -/
theorem st_storeR1 (r : Nat) {t e : TypeId} {x y : Operand} {v u : Value} {i o sz : Nat} {a : α} {L' : List Assn} (hx : evalF f x = elt v (i * sz + o)) (hy : evalF f y = u) (h1 : u.oneCell' = true) (hi : L[r]? = some (RowT v e xs)) (hm : P.cellsOf t = 1) (hsz : Rep.sz α = sz) (hj : i < xs.length) (ho : o < sz)
    (ha : Rep.cells a = (Rep.cells (xs[i]'hj)).set o u) (hL : L.set r (RowT v e (xs.set i a)) = L') (h : ExL P n ops rest Q f L') : ExL P n ops (⟨none, .store t x y, ty, pos, af, none⟩ :: rest) Q f L := by
  subst hsz; subst hL; subst hy
  refine ExL.eff rfl rfl (R := fun _ L2 => L2 = L.set r (RowT v e (xs.set i a))) (fun F w s => ?_) (fun v L2 e => by subst e; exact h)
  have hb : (i + 1) * Rep.sz α ≤ xs.length * Rep.sz α := Nat.mul_le_mul_right _ (by omega)
  rw [Nat.succ_mul] at hb
  have hcl := cellsOf_len xs
  obtain ⟨g, w', ⟨c, hv⟩, hrun, hre, hs2⟩ := row_write (P := P) (w := w) (o := i * Rep.sz α + o) (us := [evalF f y]) (xs' := xs.set i a) hi (by simp only [List.length_cons, List.length_nil]; omega) (by simp) (by simp [h1]) (by
    rw [← cellsOf_set (u := evalF f y) hj ho ha, List.set_eq_take_append_cons_drop, if_pos (by omega)]
    simp) (by simp) s
  refine ⟨_, w', _, .inr ⟨?_, rfl⟩, hre, hs2, rfl⟩
  subst hv
  simp only [elt, addr_add, Nat.zero_add] at hx
  have hc1 := run_sizeOf' w hm (Nat.succ_pos 0)
  have hcs : (evalF f y).cells = #[evalF f y] := by
    revert h1
    generalize evalF f y = u
    intro h1
    cases u <;> simp_all [Value.oneCell', Value.cells]
  simp [execOp, hx, Instr.storeAt, Instr.sureAddr, storeVar, hcs, hc1, hrun]
end
end Go.Proofs.Ytmjpdibjdgjhgaa
