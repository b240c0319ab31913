/- kithref11.Fit, walked. No condition. -/
import Derived.Test.YtkcpgdkchglhhaaPostA
namespace Go.Proofs.Ytkcpgdkchglhhaa
open Go.RowKit
set_option linter.unusedSimpArgs false
set_option linter.unusedVariables false
/-- A config that may be, of any. -/
def fitC (c : Cfg) : Cfg := ⟨1 + (c.n.tmod 5 + 5) % 5, 1 + (c.w.tmod 4 + 4) % 4, 1 + (c.q.tmod 8 + 8) % 8, 1 + (c.h.tmod 20 + 20) % 20, 1 + (c.l.tmod 4 + 4) % 4, 1 + (c.p.tmod 3 + 3) % 3⟩
structure Cfg.May (c : Cfg) : Prop where
  n : 1 ≤ c.n ∧ c.n ≤ 5
  w : 1 ≤ c.w ∧ c.w ≤ 4
  q : 1 ≤ c.q ∧ c.q ≤ 8
  h : 1 ≤ c.h ∧ c.h ≤ 20
  l : 1 ≤ c.l ∧ c.l ≤ 4
  p : 1 ≤ c.p ∧ c.p ≤ 3
theorem fitC_may (c : Cfg) : (fitC c).May := by
  refine ⟨?_, ?_, ?_, ?_, ?_, ?_⟩ <;> simp only [fitC] <;> omega
theorem tmod_bd (n : Int) (k : Int) (hk : 0 < k) : -k < n.tmod k ∧ n.tmod k < k := ⟨Int.lt_tmod_of_pos n hk, Int.tmod_lt_of_pos n hk⟩
set_option maxRecDepth 20000 attribute [local irreducible] Ex ExL Fn thn inb rnd fin meet Tab Mix mxEnd Val Sats RdT Rd RowT Row Blk Sub Fac ResV RVal Evs subs subs3 Hid Capd
theorem fitC_F (c : Cfg) (L : List Assn) : Fn Try.prog 9 #[.agg (Rep.cells c).toArray] L fun v L' => v = .agg (Rep.cells (fitC c)).toArray ∧ L' = L := by
  have h5 := tmod_bd c.n 5 (by omega)
  have h4 := tmod_bd c.w 4 (by omega)
  have h8 := tmod_bd c.q 8 (by omega)
  have h20 := tmod_bd c.h 20 (by omega)
  have h42 := tmod_bd c.l 4 (by omega)
  have h3 := tmod_bd c.p 3 (by omega)
  refine Fn.of_ex Try.func9 rfl Try.ntmps9 rfl ?_
  (repeat' (first | refine ExL.val (by rfl) (by rfl) (by rfl) rV ?_ | (first | refine Ex.seq ?_ | refine Ex.region ?_ | refine ExL.nil ?_ | refine thn_n ?_ | refine Ex.cond_t (by rfl) ?_ | refine Ex.cond_f (by rfl) ?_ | refine Ex.skip ?_ | refine Ex.block ?_ | refine Ex.exit ?_ | refine Ex.ret ?_ | refine thn_exit ?_ | refine thn_ret ?_ | refine inb_n ?_ | refine inb_hit (by rfl) ?_ | refine inb_miss (by rfl) ?_ | refine inb_ret ?_ | refine rnd_exit ?_ | refine rnd_ret ?_ | refine meet_ret ?_ | refine meet_exit ?_) | (apply exlGuard; first | refine ExL.gskip (by rfl) (by rfl) (by rfl) (by rfl) (by rfl) (by rfl) ?_ | refine ExL.gtake (by rfl) (by rfl) (by rfl) (by rfl) ?_ | refine ExL.gskipU (by rfl) (by rfl) (by rfl) (by rfl) ?_ | (refine ExL.gsplit (by rfl) (by rfl) (by rfl) (fun h => ?_) (fun h => ?_) <;> try (exfalso; omega))) | (first | refine st_new_ (by rfl) rE (fun g => ?_) | refine st_boxA (by rfl) (by rfl) (fun g => ?_) | refine st_box1 (by rfl) rE rN (fun g => ?_) | (apply exlStore; first | refine st_store1_ _ (by rfl) rK rE rN (by rfl) (by rfl) rE rE ?_ | refine st_storeW_ _ (by rfl) rK (by rfl) rC (by rfl) (by rfl) (by rfl) rE ?_ | refine st_storeR _ (by rfl) rK (by rfl) rE (by rfl) (by rfl) rE ?_ | refine st_storeA_ _ (by rfl) rK (by rfl) rC (by rfl) (by rfl) (by rfl) rE rE ?_ | refine st_storeB _ (by rfl) (by rfl) rO rO rK (by rfl) rO ?_ | refine st_storeG _ (by rfl) rK rE rN (by rfl) rO (fun cs hcs => ?_)) | refine st_slice0 (by rfl) (by rfl) (by rfl) (by rfl) (fun g => ?_) | refine st_slice1T (by rfl) (by rfl) (by rfl) (by rfl) (fun g => ?_) | refine st_makeT (by rfl) (by rfl) (by rfl) (by rfl) rE (by rfl) rO rO (fun v o => ?_) | (apply exlCopy; first | refine st_copyW _ (by rfl) rE rK rE rD (by rfl) rE (by rfl) (fun zs hzs => ?_) | refine st_copyS _ (by rfl) (by rfl) rK rE rD (by rfl) rE (by rfl) rO rO (fun zs hzs => ?_)) | refine st_sliceB (by rfl) (by rfl) (by rfl) (by rfl) (by rfl) (by rfl) (by rfl) rL rE rE (by rfl) (fun g => ?_) | refine st_slice1I (by rfl) (by rfl) (by rfl) (by rfl) (by rfl) (by rfl) (fun g => ?_) | refine st_slice1B (by rfl) (by rfl) (by rfl) (by rfl) (by rfl) (by rfl) rO rO (fun g => ?_) | refine st_slice1S (by rfl) (by rfl) (by rfl) (by rfl) (by rfl) (by rfl) (fun g => ?_) | refine st_slice2B (by rfl) (by rfl) (by rfl) (by rfl) (by rfl) (by rfl) (by rfl) rO rO rO rO (fun g => ?_) | (apply exlConv; first | refine st_bytes (by rfl) (by rfl) (by rfl) (by rfl) (by rfl) rO (fun v o => ?_) | refine st_mark _ (by rfl) (by rfl) rK (by rfl) (by rfl) (by rfl) ?_) | refine st_clear _ (0 : UInt8) (by rfl) rK (by rfl) (by rfl) (by rfl) (by rfl) (by rfl) rO ?_ | refine st_clearT _ (by rfl) rK rO (by rfl) (by rfl) rO rE ?_ | (apply exlAppend; first | refine st_app0 (by rfl) (by rfl) rE rD (by rfl) rE (by rfl) rE (by rfl) (by rfl) (by rfl) rO (fun v o => ?_) | refine st_app _ (by rfl) rE rK rE rD (by rfl) rE (by rfl) rE (by rfl) (by rfl) (by rfl) rO (fun v o => ?_) | refine st_shift _ (by rfl) (by rfl) (by rfl) rK rO (by rfl) (by rfl) (by rfl) rO rO rE ?_)) | (refine Ex.cond_d (by rfl) (fun h => ?_) (fun h => ?_) <;> try (exfalso; omega))))
  (first | refine fin_ret rS ?_ | refine fin_norm rS ?_)
  exact ⟨_, rB, rfl, rfl⟩
end Go.Proofs.Ytkcpgdkchglhhaa
