/- Several texts, one behind the other; each says in its head what it proves. No condition. -/
import Derived.Test.YtkcpgdkchglhhaaZmlobcgbg
import Derived.Test.YtkcpgdkchglhhaaZldjckhlk
import Derived.Test.YtkcpgdkchglhhaaZpdemmjlf
/- Package post, walked: Fetch, New; row. No condition. -/
namespace Go.Proofs.Ytkcpgdkchglhhaa
open Go.RowKit
set_option linter.unusedSimpArgs false
set_option linter.unusedVariables false
/-- What of the first k shelves r gets, who has c. -/
def fetN (ss : List Sh) (r : Int) (c : Clk) : Nat → List Ev
  | 0 => []
  | k + 1 => if (k : Int) ≠ r then fetN ss r c k ++ above (c.get k) ((ss.getD k Sh.zero).sf.all.drop (ss.getD k Sh.zero).sf.cut) else fetN ss r c k
theorem fetN_len {ss : List Sh} (h : ∀ x ∈ ss, x.sf.all.length ≤ 10000000) (r : Int) (c : Clk) : ∀ k, k ≤ ss.length → (fetN ss r c k).length ≤ k * 10000000
  | 0, _ => by simp [fetN]
  | k + 1, hk => by
    have ih := fetN_len h r c k (by omega)
    have e : ss.getD k Sh.zero = ss[k]'(by omega) := by simp [List.getD_eq_getElem?_getD, show k < ss.length by omega]
    have h1 := h _ (List.getElem_mem (show k < ss.length by omega))
    have h2 := above_len (c.get k) ((ss[k]'(by omega)).sf.all.drop (ss[k]'(by omega)).sf.cut)
    simp only [fetN]
    rw [Nat.succ_mul]
    generalize k * 10000000 = z at ih
    split
    · rw [List.length_append, e]
      rw [List.length_drop] at h2
      omega
    · omega
instance : ZRep Try.prog 33 Clk := ⟨Clk.zero, by kernel_rfl, by kernel_rfl⟩
/-- A config. -/
structure Cfg where
  n : Int
  w : Int
  q : Int
  h : Int
  l : Int
  p : Int
instance : Rep Cfg := ⟨6, fun c => [.int .i64 c.n, .int .i64 c.w, .int .i64 c.q, .int .i64 c.h, .int .i64 c.l, .int .i64 c.p], by decide, fun _ => rfl, fun _ => rfl⟩
set_option maxRecDepth 20000 attribute [local irreducible] Ex ExL Fn thn inb rnd fin meet Tab Mix mxEnd Val Sats RdT Rd RowT Row Blk Sub Fac ResV RVal Evs subs subs3 Hid Capd
attribute [local irreducible] StarOf StarBut
set_option maxHeartbeats 2000000 in
theorem post_Fetch (g0 : Nat) (vs vt : Value) (most : Int) (ss : List Sh) (told : List Clk) (r : Int) (c : Clk) (M : List Assn) (hs5 : ss.length ≤ 5) (hok : ∀ x ∈ ss, x.sf.all.length ≤ 10000000) :
    Fn Try.prog 19 #[.pointer (some ⟨g0, 0, none⟩), .int .i64 r, .agg (Rep.cells c).toArray] (Po g0 vs vt :: Ptrs vs ss :: Told vt told :: Shs most ss :: M)
    fun v L' => ∃ u : Value, u.oneCell' = true ∧ v = .tuple #[u, .int .i64 (if 0 ≤ r ∧ r < ss.length then 0 else 23)] ∧ L' = Evs_ u (if 0 ≤ r ∧ r < ss.length then fetN ss r c ss.length else []) :: Po g0 vs vt :: Ptrs vs ss :: Told vt told :: Shs most ss :: M := by
  have hml : (ss.map fun s => Ptr.mk s.g).length = ss.length := List.length_map ..
  refine Fn.of_ex Try.func19 rfl Try.ntmps19 rfl ?_
  (repeat' (first | refine ExL.val rJ rJ rJ rV ?_ | (first | refine Ex.seq ?_ | refine Ex.region ?_ | refine ExL.nil ?_ | refine thn_n ?_ | refine Ex.cond_t rJ ?_ | refine Ex.cond_f rJ ?_ | refine Ex.skip ?_ | refine Ex.block ?_ | refine Ex.exit ?_ | refine Ex.ret ?_ | refine thn_exit ?_ | refine thn_ret ?_ | refine inb_n ?_ | refine inb_hit rJ ?_ | refine inb_miss rJ ?_ | refine inb_ret ?_ | refine rnd_exit ?_ | refine rnd_ret ?_ | refine meet_ret ?_ | refine meet_exit ?_) | (apply exlGuard; first | refine ExL.gskip rJ rJ rJ rJ rJ rJ ?_ | refine ExL.gtake rJ rJ rJ rJ ?_ | refine ExL.gskipU rJ rJ rJ rJ ?_ | (refine ExL.gsplit rJ rJ rJ (fun h => ?_) (fun h => ?_) <;> try (exfalso; omega))) | (first | refine st_new_ rJ rE (fun g => ?_) | refine st_boxA rJ rJ (fun g => ?_) | refine st_box1 rJ rE rN (fun g => ?_) | (apply exlStore; first | refine st_store1_ _ rJ rK rE rN rJ rJ rE rE ?_ | refine st_storeW_ _ rJ rK rJ rC rJ rJ rJ rE ?_ | refine st_storeR _ rJ rK rJ rE rJ rJ rE ?_ | refine st_storeA_ _ rJ rK rJ rC rJ rJ rJ rE rE ?_ | refine st_storeB _ rJ rJ rO rO rK rJ rO ?_ | refine st_storeG _ rJ rK rE rN rJ rO (fun cs hcs => ?_)) | refine st_slice0 rJ rJ rJ rJ (fun g => ?_) | refine st_slice1T rJ rJ rJ rJ (fun g => ?_) | refine st_makeT rJ rJ rJ rJ rE rJ rO rO (fun v o => ?_) | (apply exlCopy; first | refine st_copyW _ rJ rE rK rE rD rJ rE rJ (fun zs hzs => ?_) | refine st_copyS _ rJ rJ rK rE rD rJ rE rJ rO rO (fun zs hzs => ?_)) | refine st_sliceB rJ rJ rJ rJ rJ rJ rJ rL rE rE rJ (fun g => ?_) | refine st_slice1I rJ rJ rJ rJ rJ rJ (fun g => ?_) | refine st_slice1B rJ rJ rJ rJ rJ rJ rO rO (fun g => ?_) | refine st_slice1S rJ rJ rJ rJ rJ rJ (fun g => ?_) | refine st_slice2B rJ rJ rJ rJ rJ rJ rJ rO rO rO rO (fun g => ?_) | (apply exlConv; first | refine st_bytes rJ rJ rJ rJ rJ rO (fun v o => ?_) | refine st_mark _ rJ rJ rK rJ rJ rJ ?_) | refine st_clear _ (0 : UInt8) rJ rK rJ rJ rJ rJ rJ rO ?_ | refine st_clearT _ rJ rK rO rJ rJ rO rE ?_ | (apply exlAppend; first | refine st_app0 rJ rJ rE rD rJ rE rJ rE rJ rJ rJ rO (fun v o => ?_) | refine st_app _ rJ rE rK rE rD rJ rE rJ rE rJ rJ rJ rO (fun v o => ?_) | refine st_shift _ rJ rJ rJ rK rO rJ rJ rJ rO rO rE ?_)) | (refine Ex.cond_d rJ (fun h => ?_) (fun h => ?_) <;> try (exfalso; omega))))
  refine st_callIs [2, 2] rJ Try.call28 rE rJ (post_has g0 vs vt ss r _) ?_
  rintro _ _ ⟨rfl, rfl⟩
  by_cases hr : 0 ≤ r ∧ r < ss.length
  · rw [decide_eq_true hr, if_pos hr, if_pos hr]
    (repeat' (first | refine ExL.val rJ rJ rJ rV ?_ | (first | refine Ex.seq ?_ | refine Ex.region ?_ | refine ExL.nil ?_ | refine thn_n ?_ | refine Ex.cond_t rJ ?_ | refine Ex.cond_f rJ ?_ | refine Ex.skip ?_ | refine Ex.block ?_ | refine Ex.exit ?_ | refine Ex.ret ?_ | refine thn_exit ?_ | refine thn_ret ?_ | refine inb_n ?_ | refine inb_hit rJ ?_ | refine inb_miss rJ ?_ | refine inb_ret ?_ | refine rnd_exit ?_ | refine rnd_ret ?_ | refine meet_ret ?_ | refine meet_exit ?_) | (apply exlGuard; first | refine ExL.gskip rJ rJ rJ rJ rJ rJ ?_ | refine ExL.gtake rJ rJ rJ rJ ?_ | refine ExL.gskipU rJ rJ rJ rJ ?_ | (refine ExL.gsplit rJ rJ rJ (fun h => ?_) (fun h => ?_) <;> try (exfalso; omega))) | (first | refine st_new_ rJ rE (fun g => ?_) | refine st_boxA rJ rJ (fun g => ?_) | refine st_box1 rJ rE rN (fun g => ?_) | (apply exlStore; first | refine st_store1_ _ rJ rK rE rN rJ rJ rE rE ?_ | refine st_storeW_ _ rJ rK rJ rC rJ rJ rJ rE ?_ | refine st_storeR _ rJ rK rJ rE rJ rJ rE ?_ | refine st_storeA_ _ rJ rK rJ rC rJ rJ rJ rE rE ?_ | refine st_storeB _ rJ rJ rO rO rK rJ rO ?_ | refine st_storeG _ rJ rK rE rN rJ rO (fun cs hcs => ?_)) | refine st_slice0 rJ rJ rJ rJ (fun g => ?_) | refine st_slice1T rJ rJ rJ rJ (fun g => ?_) | refine st_makeT rJ rJ rJ rJ rE rJ rO rO (fun v o => ?_) | (apply exlCopy; first | refine st_copyW _ rJ rE rK rE rD rJ rE rJ (fun zs hzs => ?_) | refine st_copyS _ rJ rJ rK rE rD rJ rE rJ rO rO (fun zs hzs => ?_)) | refine st_sliceB rJ rJ rJ rJ rJ rJ rJ rL rE rE rJ (fun g => ?_) | refine st_slice1I rJ rJ rJ rJ rJ rJ (fun g => ?_) | refine st_slice1B rJ rJ rJ rJ rJ rJ rO rO (fun g => ?_) | refine st_slice1S rJ rJ rJ rJ rJ rJ (fun g => ?_) | refine st_slice2B rJ rJ rJ rJ rJ rJ rJ rO rO rO rO (fun g => ?_) | (apply exlConv; first | refine st_bytes rJ rJ rJ rJ rJ rO (fun v o => ?_) | refine st_mark _ rJ rJ rK rJ rJ rJ ?_) | refine st_clear _ (0 : UInt8) rJ rK rJ rJ rJ rJ rJ rO ?_ | refine st_clearT _ rJ rK rO rJ rJ rO rE ?_ | (apply exlAppend; first | refine st_app0 rJ rJ rE rD rJ rE rJ rE rJ rJ rJ rO (fun v o => ?_) | refine st_app _ rJ rE rK rE rD rJ rE rJ rE rJ rJ rJ rO (fun v o => ?_) | refine st_shift _ rJ rJ rJ rK rO rJ rJ rJ rO rO rE ?_)) | (refine Ex.cond_d rJ (fun h => ?_) (fun h => ?_) <;> try (exfalso; omega))))
    revert g
    intro g5
    refine Ex.sub (L' := Blk g5 33 (Rep.cells c) :: Evs_ (.slice none 0 0) [] :: Po g0 vs vt :: Ptrs vs ss :: Told vt told :: Shs most ss :: M) ?_ (Sub.trans (Sub.fr [3] rE rB) (Sub.empty (α := Ev) none 55 _))
    refine Ex.loop [8, 20] (fun m vs2 L' => ∃ (k : Nat) (u : Value), k ≤ ss.length ∧ m = ss.length - k ∧ u.oneCell' = true ∧ vs2 = [u, .int .i64 k] ∧ L' = Blk g5 33 (Rep.cells c) :: Evs_ u (fetN ss r c k) :: Po g0 vs vt :: Ptrs vs ss :: Told vt told :: Shs most ss :: M) ss.length ⟨0, _, by omega, rfl, rfl, rfl, rfl⟩ ?_
    rintro m vs2 g1 L' ⟨k, u, hk, rfl, ou, rfl, rfl⟩
    by_cases hlt : k < ss.length
    · have hfl := fetN_len hok r c k hk
      have hk1 := hok _ (List.getElem_mem hlt)
      by_cases hkr : (k : Int) = r
      · (repeat' (first | refine ExL.val rJ rJ rJ rV ?_ | (first | refine Ex.seq ?_ | refine Ex.region ?_ | refine ExL.nil ?_ | refine thn_n ?_ | refine Ex.cond_t rJ ?_ | refine Ex.cond_f rJ ?_ | refine Ex.skip ?_ | refine Ex.block ?_ | refine Ex.exit ?_ | refine Ex.ret ?_ | refine thn_exit ?_ | refine thn_ret ?_ | refine inb_n ?_ | refine inb_hit rJ ?_ | refine inb_miss rJ ?_ | refine inb_ret ?_ | refine rnd_exit ?_ | refine rnd_ret ?_ | refine meet_ret ?_ | refine meet_exit ?_) | (apply exlGuard; first | refine ExL.gskip rJ rJ rJ rJ rJ rJ ?_ | refine ExL.gtake rJ rJ rJ rJ ?_ | refine ExL.gskipU rJ rJ rJ rJ ?_ | (refine ExL.gsplit rJ rJ rJ (fun h => ?_) (fun h => ?_) <;> try (exfalso; omega))) | (first | refine st_new_ rJ rE (fun g => ?_) | refine st_boxA rJ rJ (fun g => ?_) | refine st_box1 rJ rE rN (fun g => ?_) | (apply exlStore; first | refine st_store1_ _ rJ rK rE rN rJ rJ rE rE ?_ | refine st_storeW_ _ rJ rK rJ rC rJ rJ rJ rE ?_ | refine st_storeR _ rJ rK rJ rE rJ rJ rE ?_ | refine st_storeA_ _ rJ rK rJ rC rJ rJ rJ rE rE ?_ | refine st_storeB _ rJ rJ rO rO rK rJ rO ?_ | refine st_storeG _ rJ rK rE rN rJ rO (fun cs hcs => ?_)) | refine st_slice0 rJ rJ rJ rJ (fun g => ?_) | refine st_slice1T rJ rJ rJ rJ (fun g => ?_) | refine st_makeT rJ rJ rJ rJ rE rJ rO rO (fun v o => ?_) | (apply exlCopy; first | refine st_copyW _ rJ rE rK rE rD rJ rE rJ (fun zs hzs => ?_) | refine st_copyS _ rJ rJ rK rE rD rJ rE rJ rO rO (fun zs hzs => ?_)) | refine st_sliceB rJ rJ rJ rJ rJ rJ rJ rL rE rE rJ (fun g => ?_) | refine st_slice1I rJ rJ rJ rJ rJ rJ (fun g => ?_) | refine st_slice1B rJ rJ rJ rJ rJ rJ rO rO (fun g => ?_) | refine st_slice1S rJ rJ rJ rJ rJ rJ (fun g => ?_) | refine st_slice2B rJ rJ rJ rJ rJ rJ rJ rO rO rO rO (fun g => ?_) | (apply exlConv; first | refine st_bytes rJ rJ rJ rJ rJ rO (fun v o => ?_) | refine st_mark _ rJ rJ rK rJ rJ rJ ?_) | refine st_clear _ (0 : UInt8) rJ rK rJ rJ rJ rJ rJ rO ?_ | refine st_clearT _ rJ rK rO rJ rJ rO rE ?_ | (apply exlAppend; first | refine st_app0 rJ rJ rE rD rJ rE rJ rE rJ rJ rJ rO (fun v o => ?_) | refine st_app _ rJ rE rK rE rD rJ rE rJ rE rJ rJ rJ rO (fun v o => ?_) | refine st_shift _ rJ rJ rJ rK rO rJ rJ rJ rO rO rE ?_)) | (refine Ex.cond_d rJ (fun h => ?_) (fun h => ?_) <;> try (exfalso; omega))))
        exact rnd_n ⟨ss.length - (k + 1), _, by omega, rB, k + 1, u, by omega, rfl, ou, lcons rfl (lcons (vint (by omega)) rfl), by simp only [fetN]; rw [if_neg (by omega)]⟩
      · have hab := above_len (c.get k) ((ss[k]'hlt).sf.all.drop (ss[k]'hlt).sf.cut)
        have hdl : ((ss[k]'hlt).sf.all.drop (ss[k]'hlt).sf.cut).length = (ss[k]'hlt).sf.all.length - (ss[k]'hlt).sf.cut := List.length_drop ..
        have hfs : fetN ss r c (k + 1) = fetN ss r c k ++ above (c.get k) ((ss[k]'hlt).sf.all.drop (ss[k]'hlt).sf.cut) := by
          have e : ss.getD k Sh.zero = ss[k]'hlt := by simp [List.getD_eq_getElem?_getD, hlt]
          simp only [fetN]
          rw [if_pos hkr, e]
        (repeat' (first | refine ExL.val rJ rJ rJ rV ?_ | (first | refine Ex.seq ?_ | refine Ex.region ?_ | refine ExL.nil ?_ | refine thn_n ?_ | refine Ex.cond_t rJ ?_ | refine Ex.cond_f rJ ?_ | refine Ex.skip ?_ | refine Ex.block ?_ | refine Ex.exit ?_ | refine Ex.ret ?_ | refine thn_exit ?_ | refine thn_ret ?_ | refine inb_n ?_ | refine inb_hit rJ ?_ | refine inb_miss rJ ?_ | refine inb_ret ?_ | refine rnd_exit ?_ | refine rnd_ret ?_ | refine meet_ret ?_ | refine meet_exit ?_) | (apply exlGuard; first | refine ExL.gskip rJ rJ rJ rJ rJ rJ ?_ | refine ExL.gtake rJ rJ rJ rJ ?_ | refine ExL.gskipU rJ rJ rJ rJ ?_ | (refine ExL.gsplit rJ rJ rJ (fun h => ?_) (fun h => ?_) <;> try (exfalso; omega))) | (first | refine st_new_ rJ rE (fun g => ?_) | refine st_boxA rJ rJ (fun g => ?_) | refine st_box1 rJ rE rN (fun g => ?_) | (apply exlStore; first | refine st_store1_ _ rJ rK rE rN rJ rJ rE rE ?_ | refine st_storeW_ _ rJ rK rJ rC rJ rJ rJ rE ?_ | refine st_storeR _ rJ rK rJ rE rJ rJ rE ?_ | refine st_storeA_ _ rJ rK rJ rC rJ rJ rJ rE rE ?_ | refine st_storeB _ rJ rJ rO rO rK rJ rO ?_ | refine st_storeG _ rJ rK rE rN rJ rO (fun cs hcs => ?_)) | refine st_slice0 rJ rJ rJ rJ (fun g => ?_) | refine st_slice1T rJ rJ rJ rJ (fun g => ?_) | refine st_makeT rJ rJ rJ rJ rE rJ rO rO (fun v o => ?_) | (apply exlCopy; first | refine st_copyW _ rJ rE rK rE rD rJ rE rJ (fun zs hzs => ?_) | refine st_copyS _ rJ rJ rK rE rD rJ rE rJ rO rO (fun zs hzs => ?_)) | refine st_sliceB rJ rJ rJ rJ rJ rJ rJ rL rE rE rJ (fun g => ?_) | refine st_slice1I rJ rJ rJ rJ rJ rJ (fun g => ?_) | refine st_slice1B rJ rJ rJ rJ rJ rJ rO rO (fun g => ?_) | refine st_slice1S rJ rJ rJ rJ rJ rJ (fun g => ?_) | refine st_slice2B rJ rJ rJ rJ rJ rJ rJ rO rO rO rO (fun g => ?_) | (apply exlConv; first | refine st_bytes rJ rJ rJ rJ rJ rO (fun v o => ?_) | refine st_mark _ rJ rJ rK rJ rJ rJ ?_) | refine st_clear _ (0 : UInt8) rJ rK rJ rJ rJ rJ rJ rO ?_ | refine st_clearT _ rJ rK rO rJ rJ rO rE ?_ | (apply exlAppend; first | refine st_app0 rJ rJ rE rD rJ rE rJ rE rJ rJ rJ rO (fun v o => ?_) | refine st_app _ rJ rE rK rE rD rJ rE rJ rE rJ rJ rJ rO (fun v o => ?_) | refine st_shift _ rJ rJ rJ rK rO rJ rJ rJ rO rO rE ?_)) | (refine Ex.cond_d rJ (fun h => ?_) (fun h => ?_) <;> try (exfalso; omega))))
        rw [getD5, show (k : Int).toNat = k by omega, List.getElem_map]
        refine ExL.sub (L' := ShB most (ss[k]'hlt) :: ShC (ss[k]'hlt) :: ShsBut most ss k :: Po g0 vs vt :: Ptrs vs ss :: Told vt told :: Blk g5 33 (Rep.cells c) :: Evs_ u (fetN ss r c k) :: M) ?_ (Sub.trans (post_opn hlt _) (Sub.fr [5, 5, 5, 5] rE rB))
        refine st_callIs [] rJ Try.call32 rE rJ (shelf_From (ss[k]'hlt).g most (ss[k]'hlt).sf.cut (c.get k) (ss[k]'hlt).v ((ss[k]'hlt).sf.all.drop (ss[k]'hlt).sf.cut) _ (by omega) (ss[k]'hlt).one) ?_
        rintro u2 _ ⟨ou2, rfl⟩
        (repeat' (first | refine ExL.val rJ rJ rJ rV ?_ | (first | refine Ex.seq ?_ | refine Ex.region ?_ | refine ExL.nil ?_ | refine thn_n ?_ | refine Ex.cond_t rJ ?_ | refine Ex.cond_f rJ ?_ | refine Ex.skip ?_ | refine Ex.block ?_ | refine Ex.exit ?_ | refine Ex.ret ?_ | refine thn_exit ?_ | refine thn_ret ?_ | refine inb_n ?_ | refine inb_hit rJ ?_ | refine inb_miss rJ ?_ | refine inb_ret ?_ | refine rnd_exit ?_ | refine rnd_ret ?_ | refine meet_ret ?_ | refine meet_exit ?_) | (apply exlGuard; first | refine ExL.gskip rJ rJ rJ rJ rJ rJ ?_ | refine ExL.gtake rJ rJ rJ rJ ?_ | refine ExL.gskipU rJ rJ rJ rJ ?_ | (refine ExL.gsplit rJ rJ rJ (fun h => ?_) (fun h => ?_) <;> try (exfalso; omega))) | (first | refine st_new_ rJ rE (fun g => ?_) | refine st_boxA rJ rJ (fun g => ?_) | refine st_box1 rJ rE rN (fun g => ?_) | (apply exlStore; first | refine st_store1_ _ rJ rK rE rN rJ rJ rE rE ?_ | refine st_storeW_ _ rJ rK rJ rC rJ rJ rJ rE ?_ | refine st_storeR _ rJ rK rJ rE rJ rJ rE ?_ | refine st_storeA_ _ rJ rK rJ rC rJ rJ rJ rE rE ?_ | refine st_storeB _ rJ rJ rO rO rK rJ rO ?_ | refine st_storeG _ rJ rK rE rN rJ rO (fun cs hcs => ?_)) | refine st_slice0 rJ rJ rJ rJ (fun g => ?_) | refine st_slice1T rJ rJ rJ rJ (fun g => ?_) | refine st_makeT rJ rJ rJ rJ rE rJ rO rO (fun v o => ?_) | (apply exlCopy; first | refine st_copyW _ rJ rE rK rE rD rJ rE rJ (fun zs hzs => ?_) | refine st_copyS _ rJ rJ rK rE rD rJ rE rJ rO rO (fun zs hzs => ?_)) | refine st_sliceB rJ rJ rJ rJ rJ rJ rJ rL rE rE rJ (fun g => ?_) | refine st_slice1I rJ rJ rJ rJ rJ rJ (fun g => ?_) | refine st_slice1B rJ rJ rJ rJ rJ rJ rO rO (fun g => ?_) | refine st_slice1S rJ rJ rJ rJ rJ rJ (fun g => ?_) | refine st_slice2B rJ rJ rJ rJ rJ rJ rJ rO rO rO rO (fun g => ?_) | (apply exlConv; first | refine st_bytes rJ rJ rJ rJ rJ rO (fun v o => ?_) | refine st_mark _ rJ rJ rK rJ rJ rJ ?_) | refine st_clear _ (0 : UInt8) rJ rK rJ rJ rJ rJ rJ rO ?_ | refine st_clearT _ rJ rK rO rJ rJ rO rE ?_ | (apply exlAppend; first | refine st_app0 rJ rJ rE rD rJ rE rJ rE rJ rJ rJ rO (fun v o => ?_) | refine st_app _ rJ rE rK rE rD rJ rE rJ rE rJ rJ rJ rO (fun v o => ?_) | refine st_shift _ rJ rJ rJ rK rO rJ rJ rJ rO rO rE ?_)) | (refine Ex.cond_d rJ (fun h => ?_) (fun h => ?_) <;> try (exfalso; omega))))
        rw [← hfs]
        exact rnd_n ⟨ss.length - (k + 1), _, by omega, Sub.trans (Sub.fr [5, 5] rE (Sub.refl _)) (Sub.trans (post_cls hlt (Blk g5 33 (Rep.cells c) :: Evs_ v (fetN ss r c (k + 1)) :: M)) rB), k + 1, v, by omega, rfl, by assumption, lcons rfl (lcons (vint (by omega)) rfl), rfl⟩
    · obtain rfl : k = ss.length := by omega
      (repeat' (first | refine ExL.val rJ rJ rJ rV ?_ | (first | refine Ex.seq ?_ | refine Ex.region ?_ | refine ExL.nil ?_ | refine thn_n ?_ | refine Ex.cond_t rJ ?_ | refine Ex.cond_f rJ ?_ | refine Ex.skip ?_ | refine Ex.block ?_ | refine Ex.exit ?_ | refine Ex.ret ?_ | refine thn_exit ?_ | refine thn_ret ?_ | refine inb_n ?_ | refine inb_hit rJ ?_ | refine inb_miss rJ ?_ | refine inb_ret ?_ | refine rnd_exit ?_ | refine rnd_ret ?_ | refine meet_ret ?_ | refine meet_exit ?_) | (apply exlGuard; first | refine ExL.gskip rJ rJ rJ rJ rJ rJ ?_ | refine ExL.gtake rJ rJ rJ rJ ?_ | refine ExL.gskipU rJ rJ rJ rJ ?_ | (refine ExL.gsplit rJ rJ rJ (fun h => ?_) (fun h => ?_) <;> try (exfalso; omega))) | (first | refine st_new_ rJ rE (fun g => ?_) | refine st_boxA rJ rJ (fun g => ?_) | refine st_box1 rJ rE rN (fun g => ?_) | (apply exlStore; first | refine st_store1_ _ rJ rK rE rN rJ rJ rE rE ?_ | refine st_storeW_ _ rJ rK rJ rC rJ rJ rJ rE ?_ | refine st_storeR _ rJ rK rJ rE rJ rJ rE ?_ | refine st_storeA_ _ rJ rK rJ rC rJ rJ rJ rE rE ?_ | refine st_storeB _ rJ rJ rO rO rK rJ rO ?_ | refine st_storeG _ rJ rK rE rN rJ rO (fun cs hcs => ?_)) | refine st_slice0 rJ rJ rJ rJ (fun g => ?_) | refine st_slice1T rJ rJ rJ rJ (fun g => ?_) | refine st_makeT rJ rJ rJ rJ rE rJ rO rO (fun v o => ?_) | (apply exlCopy; first | refine st_copyW _ rJ rE rK rE rD rJ rE rJ (fun zs hzs => ?_) | refine st_copyS _ rJ rJ rK rE rD rJ rE rJ rO rO (fun zs hzs => ?_)) | refine st_sliceB rJ rJ rJ rJ rJ rJ rJ rL rE rE rJ (fun g => ?_) | refine st_slice1I rJ rJ rJ rJ rJ rJ (fun g => ?_) | refine st_slice1B rJ rJ rJ rJ rJ rJ rO rO (fun g => ?_) | refine st_slice1S rJ rJ rJ rJ rJ rJ (fun g => ?_) | refine st_slice2B rJ rJ rJ rJ rJ rJ rJ rO rO rO rO (fun g => ?_) | (apply exlConv; first | refine st_bytes rJ rJ rJ rJ rJ rO (fun v o => ?_) | refine st_mark _ rJ rJ rK rJ rJ rJ ?_) | refine st_clear _ (0 : UInt8) rJ rK rJ rJ rJ rJ rJ rO ?_ | refine st_clearT _ rJ rK rO rJ rJ rO rE ?_ | (apply exlAppend; first | refine st_app0 rJ rJ rE rD rJ rE rJ rE rJ rJ rJ rO (fun v o => ?_) | refine st_app _ rJ rE rK rE rD rJ rE rJ rE rJ rJ rJ rO (fun v o => ?_) | refine st_shift _ rJ rJ rJ rK rO rJ rJ rJ rO rO rE ?_)) | (refine Ex.cond_d rJ (fun h => ?_) (fun h => ?_) <;> try (exfalso; omega))))
      (first | refine fin_ret rS ?_ | refine fin_norm rS ?_)
      exact ⟨_, Sub.drop _ (Sub.refl _), u, ou, rfl, rfl⟩
  · rw [decide_eq_false hr, if_neg hr, if_neg hr]
    (repeat' (first | refine ExL.val rJ rJ rJ rV ?_ | (first | refine Ex.seq ?_ | refine Ex.region ?_ | refine ExL.nil ?_ | refine thn_n ?_ | refine Ex.cond_t rJ ?_ | refine Ex.cond_f rJ ?_ | refine Ex.skip ?_ | refine Ex.block ?_ | refine Ex.exit ?_ | refine Ex.ret ?_ | refine thn_exit ?_ | refine thn_ret ?_ | refine inb_n ?_ | refine inb_hit rJ ?_ | refine inb_miss rJ ?_ | refine inb_ret ?_ | refine rnd_exit ?_ | refine rnd_ret ?_ | refine meet_ret ?_ | refine meet_exit ?_) | (apply exlGuard; first | refine ExL.gskip rJ rJ rJ rJ rJ rJ ?_ | refine ExL.gtake rJ rJ rJ rJ ?_ | refine ExL.gskipU rJ rJ rJ rJ ?_ | (refine ExL.gsplit rJ rJ rJ (fun h => ?_) (fun h => ?_) <;> try (exfalso; omega))) | (first | refine st_new_ rJ rE (fun g => ?_) | refine st_boxA rJ rJ (fun g => ?_) | refine st_box1 rJ rE rN (fun g => ?_) | (apply exlStore; first | refine st_store1_ _ rJ rK rE rN rJ rJ rE rE ?_ | refine st_storeW_ _ rJ rK rJ rC rJ rJ rJ rE ?_ | refine st_storeR _ rJ rK rJ rE rJ rJ rE ?_ | refine st_storeA_ _ rJ rK rJ rC rJ rJ rJ rE rE ?_ | refine st_storeB _ rJ rJ rO rO rK rJ rO ?_ | refine st_storeG _ rJ rK rE rN rJ rO (fun cs hcs => ?_)) | refine st_slice0 rJ rJ rJ rJ (fun g => ?_) | refine st_slice1T rJ rJ rJ rJ (fun g => ?_) | refine st_makeT rJ rJ rJ rJ rE rJ rO rO (fun v o => ?_) | (apply exlCopy; first | refine st_copyW _ rJ rE rK rE rD rJ rE rJ (fun zs hzs => ?_) | refine st_copyS _ rJ rJ rK rE rD rJ rE rJ rO rO (fun zs hzs => ?_)) | refine st_sliceB rJ rJ rJ rJ rJ rJ rJ rL rE rE rJ (fun g => ?_) | refine st_slice1I rJ rJ rJ rJ rJ rJ (fun g => ?_) | refine st_slice1B rJ rJ rJ rJ rJ rJ rO rO (fun g => ?_) | refine st_slice1S rJ rJ rJ rJ rJ rJ (fun g => ?_) | refine st_slice2B rJ rJ rJ rJ rJ rJ rJ rO rO rO rO (fun g => ?_) | (apply exlConv; first | refine st_bytes rJ rJ rJ rJ rJ rO (fun v o => ?_) | refine st_mark _ rJ rJ rK rJ rJ rJ ?_) | refine st_clear _ (0 : UInt8) rJ rK rJ rJ rJ rJ rJ rO ?_ | refine st_clearT _ rJ rK rO rJ rJ rO rE ?_ | (apply exlAppend; first | refine st_app0 rJ rJ rE rD rJ rE rJ rE rJ rJ rJ rO (fun v o => ?_) | refine st_app _ rJ rE rK rE rD rJ rE rJ rE rJ rJ rJ rO (fun v o => ?_) | refine st_shift _ rJ rJ rJ rK rO rJ rJ rJ rO rO rE ?_)) | (refine Ex.cond_d rJ (fun h => ?_) (fun h => ?_) <;> try (exfalso; omega))))
    (first | refine fin_ret rS ?_ | refine fin_norm rS ?_)
    exact ⟨_, Sub.trans (Sub.cons _ rB) (Sub.empty (α := Ev) none 55 _), .slice none 0 0, rfl, rfl, rfl⟩
set_option maxHeartbeats 2000000 in
theorem post_New (c : Cfg) (M : List Assn) : Fn Try.prog 10 #[.agg (Rep.cells c).toArray] M
    fun v L' => ∃ (g : Nat) (vs vt : Value) (ss : List Sh), v = .pointer (some ⟨g, 0, none⟩) ∧ vs.oneCell' = true ∧ ss.length = (min (max c.n 0) 5).toNat ∧ (∀ x ∈ ss, x.sf = Sf.none) ∧ L' = Po g vs vt :: Ptrs vs ss :: Told vt (List.replicate (min (max c.n 0) 5).toNat Clk.zero) :: Shs c.w ss :: M := by
  obtain ⟨N, hN⟩ : ∃ N : Nat, (N : Int) = min (max c.n 0) 5 := ⟨(min (max c.n 0) 5).toNat, by omega⟩
  refine Fn.of_ex Try.func10 rfl Try.ntmps10 rfl ?_
  (repeat' (first | refine ExL.val rJ rJ rJ rV ?_ | (first | refine Ex.seq ?_ | refine Ex.region ?_ | refine ExL.nil ?_ | refine thn_n ?_ | refine Ex.cond_t rJ ?_ | refine Ex.cond_f rJ ?_ | refine Ex.skip ?_ | refine Ex.block ?_ | refine Ex.exit ?_ | refine Ex.ret ?_ | refine thn_exit ?_ | refine thn_ret ?_ | refine inb_n ?_ | refine inb_hit rJ ?_ | refine inb_miss rJ ?_ | refine inb_ret ?_ | refine rnd_exit ?_ | refine rnd_ret ?_ | refine meet_ret ?_ | refine meet_exit ?_) | (apply exlGuard; first | refine ExL.gskip rJ rJ rJ rJ rJ rJ ?_ | refine ExL.gtake rJ rJ rJ rJ ?_ | refine ExL.gskipU rJ rJ rJ rJ ?_ | (refine ExL.gsplit rJ rJ rJ (fun h => ?_) (fun h => ?_) <;> try (exfalso; omega))) | (first | refine st_new_ rJ rE (fun g => ?_) | refine st_boxA rJ rJ (fun g => ?_) | refine st_box1 rJ rE rN (fun g => ?_) | (apply exlStore; first | refine st_store1_ _ rJ rK rE rN rJ rJ rE rE ?_ | refine st_storeW_ _ rJ rK rJ rC rJ rJ rJ rE ?_ | refine st_storeR _ rJ rK rJ rE rJ rJ rE ?_ | refine st_storeA_ _ rJ rK rJ rC rJ rJ rJ rE rE ?_ | refine st_storeB _ rJ rJ rO rO rK rJ rO ?_ | refine st_storeG _ rJ rK rE rN rJ rO (fun cs hcs => ?_)) | refine st_slice0 rJ rJ rJ rJ (fun g => ?_) | refine st_slice1T rJ rJ rJ rJ (fun g => ?_) | refine st_makeT rJ rJ rJ rJ rE rJ rO rO (fun v o => ?_) | (apply exlCopy; first | refine st_copyW _ rJ rE rK rE rD rJ rE rJ (fun zs hzs => ?_) | refine st_copyS _ rJ rJ rK rE rD rJ rE rJ rO rO (fun zs hzs => ?_)) | refine st_sliceB rJ rJ rJ rJ rJ rJ rJ rL rE rE rJ (fun g => ?_) | refine st_slice1I rJ rJ rJ rJ rJ rJ (fun g => ?_) | refine st_slice1B rJ rJ rJ rJ rJ rJ rO rO (fun g => ?_) | refine st_slice1S rJ rJ rJ rJ rJ rJ (fun g => ?_) | refine st_slice2B rJ rJ rJ rJ rJ rJ rJ rO rO rO rO (fun g => ?_) | (apply exlConv; first | refine st_bytes rJ rJ rJ rJ rJ rO (fun v o => ?_) | refine st_mark _ rJ rJ rK rJ rJ rJ ?_) | refine st_clear _ (0 : UInt8) rJ rK rJ rJ rJ rJ rJ rO ?_ | refine st_clearT _ rJ rK rO rJ rJ rO rE ?_ | (apply exlAppend; first | refine st_app0 rJ rJ rE rD rJ rE rJ rE rJ rJ rJ rO (fun v o => ?_) | refine st_app _ rJ rE rK rE rD rJ rE rJ rE rJ rJ rJ rO (fun v o => ?_) | refine st_shift _ rJ rJ rJ rK rO rJ rJ rJ rO rO rE ?_)) | (refine Ex.cond_d rJ (fun h => ?_) (fun h => ?_) <;> try (exfalso; omega))))
  rw [← hN, Int.toNat_natCast]
  (repeat' (first | refine ExL.val rJ rJ rJ rV ?_ | (first | refine Ex.seq ?_ | refine Ex.region ?_ | refine ExL.nil ?_ | refine thn_n ?_ | refine Ex.cond_t rJ ?_ | refine Ex.cond_f rJ ?_ | refine Ex.skip ?_ | refine Ex.block ?_ | refine Ex.exit ?_ | refine Ex.ret ?_ | refine thn_exit ?_ | refine thn_ret ?_ | refine inb_n ?_ | refine inb_hit rJ ?_ | refine inb_miss rJ ?_ | refine inb_ret ?_ | refine rnd_exit ?_ | refine rnd_ret ?_ | refine meet_ret ?_ | refine meet_exit ?_) | (apply exlGuard; first | refine ExL.gskip rJ rJ rJ rJ rJ rJ ?_ | refine ExL.gtake rJ rJ rJ rJ ?_ | refine ExL.gskipU rJ rJ rJ rJ ?_ | (refine ExL.gsplit rJ rJ rJ (fun h => ?_) (fun h => ?_) <;> try (exfalso; omega))) | (first | refine st_new_ rJ rE (fun g => ?_) | refine st_boxA rJ rJ (fun g => ?_) | refine st_box1 rJ rE rN (fun g => ?_) | (apply exlStore; first | refine st_store1_ _ rJ rK rE rN rJ rJ rE rE ?_ | refine st_storeW_ _ rJ rK rJ rC rJ rJ rJ rE ?_ | refine st_storeR _ rJ rK rJ rE rJ rJ rE ?_ | refine st_storeA_ _ rJ rK rJ rC rJ rJ rJ rE rE ?_ | refine st_storeB _ rJ rJ rO rO rK rJ rO ?_ | refine st_storeG _ rJ rK rE rN rJ rO (fun cs hcs => ?_)) | refine st_slice0 rJ rJ rJ rJ (fun g => ?_) | refine st_slice1T rJ rJ rJ rJ (fun g => ?_) | refine st_makeT rJ rJ rJ rJ rE rJ rO rO (fun v o => ?_) | (apply exlCopy; first | refine st_copyW _ rJ rE rK rE rD rJ rE rJ (fun zs hzs => ?_) | refine st_copyS _ rJ rJ rK rE rD rJ rE rJ rO rO (fun zs hzs => ?_)) | refine st_sliceB rJ rJ rJ rJ rJ rJ rJ rL rE rE rJ (fun g => ?_) | refine st_slice1I rJ rJ rJ rJ rJ rJ (fun g => ?_) | refine st_slice1B rJ rJ rJ rJ rJ rJ rO rO (fun g => ?_) | refine st_slice1S rJ rJ rJ rJ rJ rJ (fun g => ?_) | refine st_slice2B rJ rJ rJ rJ rJ rJ rJ rO rO rO rO (fun g => ?_) | (apply exlConv; first | refine st_bytes rJ rJ rJ rJ rJ rO (fun v o => ?_) | refine st_mark _ rJ rJ rK rJ rJ rJ ?_) | refine st_clear _ (0 : UInt8) rJ rK rJ rJ rJ rJ rJ rO ?_ | refine st_clearT _ rJ rK rO rJ rJ rO rE ?_ | (apply exlAppend; first | refine st_app0 rJ rJ rE rD rJ rE rJ rE rJ rJ rJ rO (fun v o => ?_) | refine st_app _ rJ rE rK rE rD rJ rE rJ rE rJ rJ rJ rO (fun v o => ?_) | refine st_shift _ rJ rJ rJ rK rO rJ rJ rJ rO rO rE ?_)) | (refine Ex.cond_d rJ (fun h => ?_) (fun h => ?_) <;> try (exfalso; omega))))
  rename_i g1
  revert g v
  intro vt ovt gp
  refine Ex.sub (L' := Blk g1 23 (Rep.cells c) :: Po gp (.slice none 0 0) vt :: Ptrs (.slice none 0 0) [] :: Told vt (List.replicate N Clk.zero) :: Shs c.w [] :: M) ?_ ?_
  · refine Ex.loop [14] (fun m vs2 L' => ∃ (k : Nat) (vs : Value) (ss : List Sh), k ≤ N ∧ m = N - k ∧ vs.oneCell' = true ∧ ss.length = k ∧ (∀ x ∈ ss, x.sf = Sf.none) ∧ vs2 = [.int .i64 k] ∧ L' = Blk g1 23 (Rep.cells c) :: Po gp vs vt :: Ptrs vs ss :: Told vt (List.replicate N Clk.zero) :: Shs c.w ss :: M) N ⟨0, _, [], by omega, rfl, rfl, rfl, by simp, rfl, rfl⟩ ?_
    rintro m vs2 gf L' ⟨k, vs, ss, hk, rfl, ovs, hsl, hss, rfl, rfl⟩
    by_cases hlt : k < N
    · have hml : (ss.map fun s => Ptr.mk s.g).length = ss.length := List.length_map ..
      (repeat' (first | refine ExL.val rJ rJ rJ rV ?_ | (first | refine Ex.seq ?_ | refine Ex.region ?_ | refine ExL.nil ?_ | refine thn_n ?_ | refine Ex.cond_t rJ ?_ | refine Ex.cond_f rJ ?_ | refine Ex.skip ?_ | refine Ex.block ?_ | refine Ex.exit ?_ | refine Ex.ret ?_ | refine thn_exit ?_ | refine thn_ret ?_ | refine inb_n ?_ | refine inb_hit rJ ?_ | refine inb_miss rJ ?_ | refine inb_ret ?_ | refine rnd_exit ?_ | refine rnd_ret ?_ | refine meet_ret ?_ | refine meet_exit ?_) | (apply exlGuard; first | refine ExL.gskip rJ rJ rJ rJ rJ rJ ?_ | refine ExL.gtake rJ rJ rJ rJ ?_ | refine ExL.gskipU rJ rJ rJ rJ ?_ | (refine ExL.gsplit rJ rJ rJ (fun h => ?_) (fun h => ?_) <;> try (exfalso; omega))) | (first | refine st_new_ rJ rE (fun g => ?_) | refine st_boxA rJ rJ (fun g => ?_) | refine st_box1 rJ rE rN (fun g => ?_) | (apply exlStore; first | refine st_store1_ _ rJ rK rE rN rJ rJ rE rE ?_ | refine st_storeW_ _ rJ rK rJ rC rJ rJ rJ rE ?_ | refine st_storeR _ rJ rK rJ rE rJ rJ rE ?_ | refine st_storeA_ _ rJ rK rJ rC rJ rJ rJ rE rE ?_ | refine st_storeB _ rJ rJ rO rO rK rJ rO ?_ | refine st_storeG _ rJ rK rE rN rJ rO (fun cs hcs => ?_)) | refine st_slice0 rJ rJ rJ rJ (fun g => ?_) | refine st_slice1T rJ rJ rJ rJ (fun g => ?_) | refine st_makeT rJ rJ rJ rJ rE rJ rO rO (fun v o => ?_) | (apply exlCopy; first | refine st_copyW _ rJ rE rK rE rD rJ rE rJ (fun zs hzs => ?_) | refine st_copyS _ rJ rJ rK rE rD rJ rE rJ rO rO (fun zs hzs => ?_)) | refine st_sliceB rJ rJ rJ rJ rJ rJ rJ rL rE rE rJ (fun g => ?_) | refine st_slice1I rJ rJ rJ rJ rJ rJ (fun g => ?_) | refine st_slice1B rJ rJ rJ rJ rJ rJ rO rO (fun g => ?_) | refine st_slice1S rJ rJ rJ rJ rJ rJ (fun g => ?_) | refine st_slice2B rJ rJ rJ rJ rJ rJ rJ rO rO rO rO (fun g => ?_) | (apply exlConv; first | refine st_bytes rJ rJ rJ rJ rJ rO (fun v o => ?_) | refine st_mark _ rJ rJ rK rJ rJ rJ ?_) | refine st_clear _ (0 : UInt8) rJ rK rJ rJ rJ rJ rJ rO ?_ | refine st_clearT _ rJ rK rO rJ rJ rO rE ?_ | (apply exlAppend; first | refine st_app0 rJ rJ rE rD rJ rE rJ rE rJ rJ rJ rO (fun v o => ?_) | refine st_app _ rJ rE rK rE rD rJ rE rJ rE rJ rJ rJ rO (fun v o => ?_) | refine st_shift _ rJ rJ rJ rK rO rJ rJ rJ rO rO rE ?_)) | (refine Ex.cond_d rJ (fun h => ?_) (fun h => ?_) <;> try (exfalso; omega))))
      refine Ex.reord [2] rE ?_
      (refine Ex.mixA 10 (_ :: _ :: _ :: _ :: M) rfl (by kernel_rfl) rF ?_; (repeat' (first | refine mx_val rJ rJ rJ rV ?_ | refine mx_nil ?_ | (first | refine mx_gskip rJ rJ rJ rJ ?_ | refine mx_gtake rJ rJ rJ ?_ | refine mx_gskipU rJ rJ rJ ?_) | (first | refine mx_slice1T rJ rJ rJ rJ (fun g => ?_) | refine mx_slice1I rJ rJ rJ rJ rJ rJ (fun g => ?_) | refine mx_slice1B rJ rJ rJ rJ rJ rJ rO rO (fun g => ?_) | refine mx_slice1S rJ rJ rJ rJ rJ rJ (fun g => ?_) | refine mx_slice2B rJ rJ rJ rJ rJ rJ rJ rO rO rO rO (fun g => ?_) | refine mx_alloc rJ rE (fun g => ?_) | refine mx_boxA rJ rJ (fun g => ?_) | refine mx_slice0 rJ rJ rJ rJ (fun g => ?_)) | (refine mx_gsplit rJ rJ rJ (fun h => ?_) (fun h => ?_) <;> try (exfalso; omega)) | (refine mx_act rJ rJ rJ ?_; (first | (apply exlCopy; first | refine st_copyW _ rJ rE rK rE rD rJ rE rJ (fun zs hzs => ?_) | refine st_copyS _ rJ rJ rK rE rD rJ rE rJ rO rO (fun zs hzs => ?_)) | (apply exlAppend; first | refine st_app0 rJ rJ rE rD rJ rE rJ rE rJ rJ rJ rO (fun v o => ?_) | refine st_app _ rJ rE rK rE rD rJ rE rJ rE rJ rJ rJ rO (fun v o => ?_) | refine st_shift _ rJ rJ rJ rK rO rJ rJ rJ rO rO rE ?_)); refine ExL.nil ?_; refine mxEnd_n rF ?_))))
      (refine mx_act rJ rJ rJ ?_; refine st_callIs [] rJ Try.call21 rE rJ (shelf_New c.w _) ?_)
      rintro _ _ ⟨gs, rfl, rfl⟩
      (refine ExL.nil ?_; refine mxEnd_n rF ?_; (repeat' (first | refine mx_val rJ rJ rJ rV ?_ | refine mx_nil ?_ | (first | refine mx_gskip rJ rJ rJ rJ ?_ | refine mx_gtake rJ rJ rJ ?_ | refine mx_gskipU rJ rJ rJ ?_) | (first | refine mx_slice1T rJ rJ rJ rJ (fun g => ?_) | refine mx_slice1I rJ rJ rJ rJ rJ rJ (fun g => ?_) | refine mx_slice1B rJ rJ rJ rJ rJ rJ rO rO (fun g => ?_) | refine mx_slice1S rJ rJ rJ rJ rJ rJ (fun g => ?_) | refine mx_slice2B rJ rJ rJ rJ rJ rJ rJ rO rO rO rO (fun g => ?_) | refine mx_alloc rJ rE (fun g => ?_) | refine mx_boxA rJ rJ (fun g => ?_) | refine mx_slice0 rJ rJ rJ rJ (fun g => ?_)) | (refine mx_gsplit rJ rJ rJ (fun h => ?_) (fun h => ?_) <;> try (exfalso; omega)) | (refine mx_act rJ rJ rJ ?_; (first | (apply exlCopy; first | refine st_copyW _ rJ rE rK rE rD rJ rE rJ (fun zs hzs => ?_) | refine st_copyS _ rJ rJ rK rE rD rJ rE rJ rO rO (fun zs hzs => ?_)) | (apply exlAppend; first | refine st_app0 rJ rJ rE rD rJ rE rJ rE rJ rJ rJ rO (fun v o => ?_) | refine st_app _ rJ rE rK rE rD rJ rE rJ rE rJ rJ rJ rO (fun v o => ?_) | refine st_shift _ rJ rJ rJ rK rO rJ rJ rJ rO rO rE ?_)); refine ExL.nil ?_; refine mxEnd_n rF ?_))))
      refine mx_slice1V (⟨gs⟩ : Ptr) rJ rJ rJ rJ rJ rJ rJ rJ (fun g => ?_)
      (repeat' (first | refine mx_val rJ rJ rJ rV ?_ | refine mx_nil ?_ | (first | refine mx_gskip rJ rJ rJ rJ ?_ | refine mx_gtake rJ rJ rJ ?_ | refine mx_gskipU rJ rJ rJ ?_) | (first | refine mx_slice1T rJ rJ rJ rJ (fun g => ?_) | refine mx_slice1I rJ rJ rJ rJ rJ rJ (fun g => ?_) | refine mx_slice1B rJ rJ rJ rJ rJ rJ rO rO (fun g => ?_) | refine mx_slice1S rJ rJ rJ rJ rJ rJ (fun g => ?_) | refine mx_slice2B rJ rJ rJ rJ rJ rJ rJ rO rO rO rO (fun g => ?_) | refine mx_alloc rJ rE (fun g => ?_) | refine mx_boxA rJ rJ (fun g => ?_) | refine mx_slice0 rJ rJ rJ rJ (fun g => ?_)) | (refine mx_gsplit rJ rJ rJ (fun h => ?_) (fun h => ?_) <;> try (exfalso; omega)) | (refine mx_act rJ rJ rJ ?_; (first | (apply exlCopy; first | refine st_copyW _ rJ rE rK rE rD rJ rE rJ (fun zs hzs => ?_) | refine st_copyS _ rJ rJ rK rE rD rJ rE rJ rO rO (fun zs hzs => ?_)) | (apply exlAppend; first | refine st_app0 rJ rJ rE rD rJ rE rJ rE rJ rJ rJ rO (fun v o => ?_) | refine st_app _ rJ rE rK rE rD rJ rE rJ rE rJ rJ rJ rO (fun v o => ?_) | refine st_shift _ rJ rJ rJ rK rO rJ rJ rJ rO rO rE ?_)); refine ExL.nil ?_; refine mxEnd_n rF ?_)))
      (repeat' (first | refine ExL.val rJ rJ rJ rV ?_ | (first | refine Ex.seq ?_ | refine Ex.region ?_ | refine ExL.nil ?_ | refine thn_n ?_ | refine Ex.cond_t rJ ?_ | refine Ex.cond_f rJ ?_ | refine Ex.skip ?_ | refine Ex.block ?_ | refine Ex.exit ?_ | refine Ex.ret ?_ | refine thn_exit ?_ | refine thn_ret ?_ | refine inb_n ?_ | refine inb_hit rJ ?_ | refine inb_miss rJ ?_ | refine inb_ret ?_ | refine rnd_exit ?_ | refine rnd_ret ?_ | refine meet_ret ?_ | refine meet_exit ?_) | (apply exlGuard; first | refine ExL.gskip rJ rJ rJ rJ rJ rJ ?_ | refine ExL.gtake rJ rJ rJ rJ ?_ | refine ExL.gskipU rJ rJ rJ rJ ?_ | (refine ExL.gsplit rJ rJ rJ (fun h => ?_) (fun h => ?_) <;> try (exfalso; omega))) | (first | refine st_new_ rJ rE (fun g => ?_) | refine st_boxA rJ rJ (fun g => ?_) | refine st_box1 rJ rE rN (fun g => ?_) | (apply exlStore; first | refine st_store1_ _ rJ rK rE rN rJ rJ rE rE ?_ | refine st_storeW_ _ rJ rK rJ rC rJ rJ rJ rE ?_ | refine st_storeR _ rJ rK rJ rE rJ rJ rE ?_ | refine st_storeA_ _ rJ rK rJ rC rJ rJ rJ rE rE ?_ | refine st_storeB _ rJ rJ rO rO rK rJ rO ?_ | refine st_storeG _ rJ rK rE rN rJ rO (fun cs hcs => ?_)) | refine st_slice0 rJ rJ rJ rJ (fun g => ?_) | refine st_slice1T rJ rJ rJ rJ (fun g => ?_) | refine st_makeT rJ rJ rJ rJ rE rJ rO rO (fun v o => ?_) | (apply exlCopy; first | refine st_copyW _ rJ rE rK rE rD rJ rE rJ (fun zs hzs => ?_) | refine st_copyS _ rJ rJ rK rE rD rJ rE rJ rO rO (fun zs hzs => ?_)) | refine st_sliceB rJ rJ rJ rJ rJ rJ rJ rL rE rE rJ (fun g => ?_) | refine st_slice1I rJ rJ rJ rJ rJ rJ (fun g => ?_) | refine st_slice1B rJ rJ rJ rJ rJ rJ rO rO (fun g => ?_) | refine st_slice1S rJ rJ rJ rJ rJ rJ (fun g => ?_) | refine st_slice2B rJ rJ rJ rJ rJ rJ rJ rO rO rO rO (fun g => ?_) | (apply exlConv; first | refine st_bytes rJ rJ rJ rJ rJ rO (fun v o => ?_) | refine st_mark _ rJ rJ rK rJ rJ rJ ?_) | refine st_clear _ (0 : UInt8) rJ rK rJ rJ rJ rJ rJ rO ?_ | refine st_clearT _ rJ rK rO rJ rJ rO rE ?_ | (apply exlAppend; first | refine st_app0 rJ rJ rE rD rJ rE rJ rE rJ rJ rJ rO (fun v o => ?_) | refine st_app _ rJ rE rK rE rD rJ rE rJ rE rJ rJ rJ rO (fun v o => ?_) | refine st_shift _ rJ rJ rJ rK rO rJ rJ rJ rO rO rE ?_)) | (refine Ex.cond_d rJ (fun h => ?_) (fun h => ?_) <;> try (exfalso; omega))))
      obtain ⟨x, hx⟩ : ∃ x : Sh, x = ⟨gs, .slice none 0 0, rfl, Sf.none⟩ := ⟨_, rfl⟩
      have hP : Ptrs v (ss ++ [x]) = RowT v 62 (ss.map (fun s => Ptr.mk s.g) ++ [⟨gs⟩]) := by unfold Ptrs; rw [List.map_append, hx]; rfl
      refine rnd_n ⟨N - (k + 1), Blk g1 23 (Rep.cells c) :: Po gp v vt :: Ptrs v (ss ++ [x]) :: Told vt (List.replicate N Clk.zero) :: Shs c.w (ss ++ [x]) :: M, by omega, ?_, k + 1, v, ss ++ [x], by omega, rfl, by assumption, by simp [hsl], fun y hy => by
        rcases List.mem_append.1 hy with hy | hy
        · exact hss y hy
        · rw [List.mem_singleton.1 hy, hx], lcons (vint (by omega)) rfl, rfl⟩
      rw [hP]
      refine Sub.trans (Sub.fr [4, 4, 2, 4] rE (Sub.refl _)) (Sub.trans (StarOf.last (B := ShB c.w) (C := ShC) x (RowT v 62 (ss.map (fun s => Ptr.mk s.g) ++ [⟨gs⟩]) :: Blk g1 23 (Rep.cells c) :: Po gp v vt :: Told vt (List.replicate N Clk.zero) :: M)) ?_)
      rw [hx]
      exact Sub.fr [3, 3, 7] rE rB
    · obtain rfl : k = N := by omega
      (repeat' (first | refine ExL.val rJ rJ rJ rV ?_ | (first | refine Ex.seq ?_ | refine Ex.region ?_ | refine ExL.nil ?_ | refine thn_n ?_ | refine Ex.cond_t rJ ?_ | refine Ex.cond_f rJ ?_ | refine Ex.skip ?_ | refine Ex.block ?_ | refine Ex.exit ?_ | refine Ex.ret ?_ | refine thn_exit ?_ | refine thn_ret ?_ | refine inb_n ?_ | refine inb_hit rJ ?_ | refine inb_miss rJ ?_ | refine inb_ret ?_ | refine rnd_exit ?_ | refine rnd_ret ?_ | refine meet_ret ?_ | refine meet_exit ?_) | (apply exlGuard; first | refine ExL.gskip rJ rJ rJ rJ rJ rJ ?_ | refine ExL.gtake rJ rJ rJ rJ ?_ | refine ExL.gskipU rJ rJ rJ rJ ?_ | (refine ExL.gsplit rJ rJ rJ (fun h => ?_) (fun h => ?_) <;> try (exfalso; omega))) | (first | refine st_new_ rJ rE (fun g => ?_) | refine st_boxA rJ rJ (fun g => ?_) | refine st_box1 rJ rE rN (fun g => ?_) | (apply exlStore; first | refine st_store1_ _ rJ rK rE rN rJ rJ rE rE ?_ | refine st_storeW_ _ rJ rK rJ rC rJ rJ rJ rE ?_ | refine st_storeR _ rJ rK rJ rE rJ rJ rE ?_ | refine st_storeA_ _ rJ rK rJ rC rJ rJ rJ rE rE ?_ | refine st_storeB _ rJ rJ rO rO rK rJ rO ?_ | refine st_storeG _ rJ rK rE rN rJ rO (fun cs hcs => ?_)) | refine st_slice0 rJ rJ rJ rJ (fun g => ?_) | refine st_slice1T rJ rJ rJ rJ (fun g => ?_) | refine st_makeT rJ rJ rJ rJ rE rJ rO rO (fun v o => ?_) | (apply exlCopy; first | refine st_copyW _ rJ rE rK rE rD rJ rE rJ (fun zs hzs => ?_) | refine st_copyS _ rJ rJ rK rE rD rJ rE rJ rO rO (fun zs hzs => ?_)) | refine st_sliceB rJ rJ rJ rJ rJ rJ rJ rL rE rE rJ (fun g => ?_) | refine st_slice1I rJ rJ rJ rJ rJ rJ (fun g => ?_) | refine st_slice1B rJ rJ rJ rJ rJ rJ rO rO (fun g => ?_) | refine st_slice1S rJ rJ rJ rJ rJ rJ (fun g => ?_) | refine st_slice2B rJ rJ rJ rJ rJ rJ rJ rO rO rO rO (fun g => ?_) | (apply exlConv; first | refine st_bytes rJ rJ rJ rJ rJ rO (fun v o => ?_) | refine st_mark _ rJ rJ rK rJ rJ rJ ?_) | refine st_clear _ (0 : UInt8) rJ rK rJ rJ rJ rJ rJ rO ?_ | refine st_clearT _ rJ rK rO rJ rJ rO rE ?_ | (apply exlAppend; first | refine st_app0 rJ rJ rE rD rJ rE rJ rE rJ rJ rJ rO (fun v o => ?_) | refine st_app _ rJ rE rK rE rD rJ rE rJ rE rJ rJ rJ rO (fun v o => ?_) | refine st_shift _ rJ rJ rJ rK rO rJ rJ rJ rO rO rE ?_)) | (refine Ex.cond_d rJ (fun h => ?_) (fun h => ?_) <;> try (exfalso; omega))))
      (first | refine fin_ret rS ?_ | refine fin_norm rS ?_)
      exact ⟨_, Sub.drop _ (Sub.refl _), gp, vs, vt, ss, rfl, ovs, hsl, hss, rfl⟩
  · exact Sub.trans (Sub.fr [4, 3, 2, 3] rE rB) (Sub.trans (StarOf.nil _) (Sub.empty (α := Ptr) none 62 _))
end Go.Proofs.Ytkcpgdkchglhhaa
/- Package post: its contracts in plain words. No condition. -/
namespace Go.Proofs.Ytkcpgdkchglhhaa
open Go.RowKit
set_option linter.unusedSimpArgs false
set_option linter.unusedVariables false
/-- A post that is owned: how it stands in plain words. -/
def PoA (g : Nat) (most : Int) (st : PSt) : Assn := fun h => ∃ (vs vt : Value) (ss : List Sh), ss.map Sh.sf = st.sf ∧ Star [Po g vs vt, Ptrs vs ss, Told vt st.told, Shs most ss] h
theorem star4 (A B C D : Assn) (L : List Assn) : Sub (A :: B :: C :: D :: L) (Star [A, B, C, D] :: L) :=
  Sub.trans (Sub.cons A (Sub.trans (Sub.cons B (Sub.trans (Sub.cons C (Sub.trans (Sub.cons D (Sub.drop _ (Sub.refl L))) (Star.open1 (A := D) (As := []) L))) (Star.open1 (A := C) (As := [D]) L))) (Star.open1 (A := B) (As := [C, D]) L))) (Star.open1 (A := A) (As := [B, C, D]) L)
theorem star4c (A B C D : Assn) (L : List Assn) : Sub (Star [A, B, C, D] :: L) (A :: B :: C :: D :: L) :=
  Sub.trans (Star.close1 (A := A) (As := [B, C, D]) L) (Sub.cons A (Sub.trans (Star.close1 (A := B) (As := [C, D]) L) (Sub.cons B (Sub.trans (Star.close1 (A := C) (As := [D]) L) (Sub.cons C (Sub.trans (Star.close1 (A := D) (As := []) L) (Sub.cons D (Star.nil L))))))))
theorem PoA.cls {g : Nat} {most : Int} {st : PSt} {vs vt : Value} {ss : List Sh} (h : ss.map Sh.sf = st.sf) (M : List Assn) : Sub (PoA g most st :: M) (Po g vs vt :: Ptrs vs ss :: Told vt st.told :: Shs most ss :: M) :=
  Sub.trans (Sub.cons' (fun x a => ⟨vs, vt, ss, h, a⟩) (Sub.refl M)) (star4c _ _ _ _ M)
theorem PoA.fn {P : Program} {k : FuncId} {args : Array Value} {g : Nat} {most : Int} {st : PSt} {M : List Assn} {R : Value → List Assn → Prop} (h : ∀ vs vt ss, ss.map Sh.sf = st.sf → Fn P k args (Po g vs vt :: Ptrs vs ss :: Told vt st.told :: Shs most ss :: M) R) : Fn P k args (PoA g most st :: M) R := fun F w0 w r ⟨x, ⟨vs, vt, ss, hs, a⟩, d, s⟩ =>
  h vs vt ss hs F w0 w r (star4 _ _ _ _ M w F ⟨x, a, d, s⟩)
/-- A result, with what is owned seen otherwise. -/
theorem Fn.res {P : Program} {k : FuncId} {args : Array Value} {L : List Assn} {R R' : Value → List Assn → Prop} (h : Fn P k args L R) (hr : ∀ v L', R v L' → ∃ L2, Sub L2 L' ∧ R' v L2) : Fn P k args L R' := fun F w0 w r s =>
  (h F w0 w r s).mono fun e w' ⟨v, L', he, hr', hs, hR⟩ => let ⟨L2, h1, h2⟩ := hr v L' hR; ⟨v, L2, he, hr', h1 w' F hs, h2⟩
structure PSt.Ok (B : Nat) (st : PSt) : Prop where
  n : st.sf.length ≤ 5
  t : st.told.length = st.sf.length
  s : ∀ x ∈ st.sf, x.Ok ∧ x.all.length ≤ B
theorem PSt.Ok.ss {B : Nat} {st : PSt} (h : st.Ok B) {ss : List Sh} (hs : ss.map Sh.sf = st.sf) : ss.length = st.sf.length ∧ ∀ x ∈ ss, x.sf.Ok ∧ x.sf.all.length ≤ B := by
  refine ⟨by rw [← hs, List.length_map], fun x hx => h.s _ ?_⟩
  rw [← hs]
  exact List.mem_map_of_mem hx
theorem sf_get {ss : List Sh} {st : PSt} (hs : ss.map Sh.sf = st.sf) {i : Nat} (h : i < ss.length) : st.sf.getD i Sf.none = (ss[i]'h).sf := by
  rw [← hs]
  simp [List.getD_eq_getElem?_getD, h]
theorem sh_get {ss : List Sh} {i : Nat} (h : i < ss.length) : ss.getD i Sh.zero = ss[i]'h := by
  simp [List.getD_eq_getElem?_getD, h]
theorem post_SiteA (g : Nat) (most : Int) (st : PSt) (M : List Assn) (hok : st.Ok 1000000) : Fn Try.prog 13 #[.pointer (some ⟨g, 0, none⟩)] (PoA g most st :: M) fun v L' => v = .agg (Rep.cells st.site).toArray ∧ L' = PoA g most st :: M := by
  refine PoA.fn fun vs vt ss hs => ?_
  obtain ⟨hl, hx⟩ := hok.ss hs
  refine (post_Site g vs vt most ss st.told M (by rw [hl]; exact hok.n) (by rw [hl]; exact hok.t) (fun x h => ⟨(hx x h).1, by have := (hx x h).2; omega⟩)).res ?_
  rintro v L' ⟨rfl, rfl⟩
  refine ⟨_, PoA.cls hs M, ?_, rfl⟩
  have e1 : clkOf (eachF (fun s => (s.cut : Int)) ss ss.length) = clkOf st.baseF := clkOf_congr fun i hi => by
    unfold eachF PSt.baseF
    rw [hl]
    by_cases h : i < st.sf.length
    · rw [if_pos h, if_pos h, sh_get (by omega), sf_get hs (by omega)]
    · rw [if_neg h, if_neg h]
  have e2 : clkOf (eachF (fun s => (s.all.length : Int)) ss ss.length) = clkOf st.lenF := clkOf_congr fun i hi => by
    unfold eachF PSt.lenF
    rw [hl]
    by_cases h : i < st.sf.length
    · rw [if_pos h, if_pos h, sh_get (by omega), sf_get hs (by omega)]
    · rw [if_neg h, if_neg h]
  rw [e1, e2]
  rfl
theorem fetN_get {ss : List Sh} {st : PSt} (hs : ss.map Sh.sf = st.sf) (r : Int) (c : Clk) : ∀ k, k ≤ ss.length → fetN ss r c k = st.getN r c k
  | 0, _ => rfl
  | k + 1, hk => by
    simp only [fetN, PSt.getN]
    rw [fetN_get hs r c k (by omega), sh_get (by omega), sf_get hs (by omega)]
theorem post_FetchA (g : Nat) (most : Int) (st : PSt) (r : Int) (c : Clk) (M : List Assn) (hok : st.Ok 1000000) : Fn Try.prog 19 #[.pointer (some ⟨g, 0, none⟩), .int .i64 r, .agg (Rep.cells c).toArray] (PoA g most st :: M)
    fun v L' => ∃ u : Value, u.oneCell' = true ∧ v = .tuple #[u, .int .i64 (st.fetch r c).2] ∧ L' = Evs_ u (st.fetch r c).1 :: PoA g most st :: M := by
  refine PoA.fn fun vs vt ss hs => ?_
  obtain ⟨hl, hx⟩ := hok.ss hs
  refine (post_Fetch g vs vt most ss st.told r c M (by rw [hl]; exact hok.n) (fun x h => by have := (hx x h).2; omega)).res ?_
  rintro v L' ⟨u, ou, rfl, rfl⟩
  have he : st.fetch r c = (if 0 ≤ r ∧ r < ss.length then fetN ss r c ss.length else [], if 0 ≤ r ∧ r < ss.length then 0 else 23) := by
    unfold PSt.fetch PSt.has
    rw [hl]
    by_cases h : 0 ≤ r ∧ r < st.sf.length
    · rw [if_neg (fun k => k h), if_pos h, if_pos h, ← hl, fetN_get hs r c _ (Nat.le_refl _)]
    · rw [if_pos h, if_neg h, if_neg h]
  rw [he]
  exact ⟨_, Sub.cons _ (PoA.cls hs M), u, ou, rfl, rfl⟩
theorem PSt.cutN_get (told : List Clk) (sf : List Sf) : ∀ (k i : Nat) (h : i < sf.length), k ≤ sf.length → ((⟨told, sf⟩ : PSt).cutN k).sf[i]'(by rw [PSt.cutN_len]; exact h) = if i < k then (sf[i]'h).to (leastR told i) else sf[i]'h
  | 0, i, h, _ => by simp [PSt.cutN]
  | k + 1, i, h, hk => by
    have ih := PSt.cutN_get told sf k i h (by omega)
    have e : ((⟨told, sf⟩ : PSt).cutN (k + 1)).sf = ((⟨told, sf⟩ : PSt).cutN k).sf.set k ((((⟨told, sf⟩ : PSt).cutN k).sf.getD k Sf.none).to (leastR told k)) := by
      show ((⟨told, sf⟩ : PSt).cutN k).sf.set k ((((⟨told, sf⟩ : PSt).cutN k).sf.getD k Sf.none).to (leastR ((⟨told, sf⟩ : PSt).cutN k).told k)) = _
      rw [PSt.cutN_told]
    have hkl : k < ((⟨told, sf⟩ : PSt).cutN k).sf.length := by rw [PSt.cutN_len]; exact hk
    simp only [e, List.getElem_set]
    by_cases h1 : k = i
    · subst h1
      rw [if_pos rfl, if_pos (by omega)]
      have h2 := PSt.cutN_get told sf k k h (by omega)
      rw [if_neg (by omega)] at h2
      rw [show ((⟨told, sf⟩ : PSt).cutN k).sf.getD k Sf.none = ((⟨told, sf⟩ : PSt).cutN k).sf[k]'hkl by simp [List.getD_eq_getElem?_getD, hkl], h2]
    · rw [if_neg h1, ih]
      by_cases h2 : i < k
      · rw [if_pos h2, if_pos (by omega)]
      · rw [if_neg h2, if_neg (by omega)]
theorem cut_all {ss ss2 : List Sh} {told : List Clk} {sf : List Sf} (hs : ss.map Sh.sf = sf) (h : cutSh ss told ss.length ss2) : ss2.map Sh.sf = ((⟨told, sf⟩ : PSt).cutN sf.length).sf := by
  have hl : sf.length = ss.length := by rw [← hs, List.length_map]
  refine List.ext_getElem (by rw [List.length_map, PSt.cutN_len, h.1]; exact hl.symm) fun i h1 h2 => ?_
  rw [PSt.cutN_len] at h2
  have h2 : i < sf.length := h2
  rw [PSt.cutN_get told sf sf.length i h2 (Nat.le_refl _), if_pos h2, List.getElem_map, (h.2 i (by omega) (by rw [h.1]; omega)).2, if_pos (by omega)]
  subst hs
  rw [List.getElem_map]
theorem post_AckA (g : Nat) (most : Int) (st : PSt) (r : Int) (c : Clk) (M : List Assn) (hok : st.Ok 1000000) : Fn Try.prog 17 #[.pointer (some ⟨g, 0, none⟩), .int .i64 r, .agg (Rep.cells c).toArray] (PoA g most st :: M)
    fun v L' => v = .int .i64 (st.ack r c).1 ∧ L' = PoA g most (st.ack r c).2 :: M := by
  refine PoA.fn fun vs vt ss hs => ?_
  obtain ⟨hl, hx⟩ := hok.ss hs
  refine (post_Ack g vs vt most ss st.told r c M (by rw [hl]; exact hok.n) (by rw [hl]; exact hok.t) (fun x h => ⟨(hx x h).1, by have := (hx x h).2; omega⟩)).res ?_
  rintro v L' (⟨hr, rfl, rfl⟩ | ⟨hr, rfl, ss2, hC, rfl⟩)
  · have hst : ¬ st.has r := by unfold PSt.has; rw [← hl]; exact hr
    have he : st.ack r c = (23, st) := by unfold PSt.ack; rw [if_pos hst]
    rw [he]
    exact ⟨_, PoA.cls hs M, rfl, rfl⟩
  · have he : st.ack r c = (0, (⟨st.told.set r.toNat ((st.told.getD r.toNat Clk.zero).join c), st.sf⟩ : PSt).cutN st.sf.length) := by
      have hst : st.has r := by unfold PSt.has; rw [← hl]; exact hr
      unfold PSt.ack; rw [if_neg (fun k => k hst)]
    rw [he]
    have ht := PSt.cutN_told (⟨st.told.set r.toNat ((st.told.getD r.toNat Clk.zero).join c), st.sf⟩ : PSt) st.sf.length
    have h2 := PoA.cls (g := g) (most := most) (vs := vs) (vt := vt) (cut_all hs hC) M
    rw [ht] at h2
    exact ⟨_, h2, rfl, rfl⟩
theorem post_PushA (g : Nat) (most : Int) (st : PSt) (r : Int) (u : Value) (l : List Ev) (M : List Assn) (hok : st.Ok 1000000) (hu : RdT M u l) (hll : l.length ≤ 1000000) (hI : ∀ e ∈ l, I64 e.n) : Fn Try.prog 15 #[.pointer (some ⟨g, 0, none⟩), .int .i64 r, u] (PoA g most st :: M)
    fun v L' => v = .tuple #[.int .i64 (st.push most r l).1, .int .i64 (st.push most r l).2.1] ∧ L' = PoA g most (st.push most r l).2.2 :: M := by
  refine PoA.fn fun vs vt ss hs => ?_
  obtain ⟨hl, hx⟩ := hok.ss hs
  refine (post_Push g vs vt u most ss st.told r l M (by rw [hl]; exact hok.n) (by rw [hl]; exact hok.t) (fun x h => ⟨(hx x h).1, by have := (hx x h).2; omega⟩) hu (by omega) hI).res ?_
  have hbad : badPush ss.length r l ↔ (¬ st.has r ∨ ∃ e ∈ l, e.r ≠ r) := by unfold badPush PSt.has; rw [hl]
  rintro v L' (⟨hb, rfl, rfl⟩ | ⟨hb, hn, x, hxg, rfl, hcase⟩)
  · have he : st.push most r l = (0, 23, st) := by unfold PSt.push; rw [if_pos (hbad.1 hb)]
    rw [he]
    exact ⟨_, PoA.cls hs M, rfl, rfl⟩
  · have hg := sf_get hs hn
    have hset : ∀ y : Sf, x.sf = y → (ss.set r.toNat x).map Sh.sf = st.sf.set r.toNat y := fun y hy => by rw [List.map_set, hs, hy]
    rcases hcase with ⟨hp, rfl, hxf⟩ | ⟨hp, rfl, hxf⟩
    · have he : st.push most r l = (0, (pushR most (ss[r.toNat]'hn).sf l).1, st) := by
        unfold PSt.push
        rw [if_neg (fun k => hb (hbad.2 k)), hg]
        exact if_pos hp
      rw [he]
      have h2 := hset _ hxf
      have h3 : st.sf.set r.toNat (ss[r.toNat]'hn).sf = st.sf := by
        rw [← hs, ← List.getElem_map (f := Sh.sf) (h := by simpa using hn)]
        exact List.set_getElem_self _
      rw [h3] at h2
      exact ⟨_, PoA.cls h2 M, rfl, rfl⟩
    · have hrl : r.toNat < st.sf.length := by rw [← hl]; exact hn
      have he : st.push most r l = (((x.sf.all.length : Nat) : Int), (0 : Int), (⟨st.told, st.sf.set r.toNat x.sf⟩ : PSt)) := by
        unfold PSt.push
        rw [if_neg (fun k => hb (hbad.2 k)), hg]
        refine (if_neg (fun k => k hp)).trans ?_
        simp only [Sf.put]
        have e1 : x.sf.all = (ss[r.toNat]'hn).sf.all ++ (pushR most (ss[r.toNat]'hn).sf l).2 := by rw [hxf]; rfl
        rw [e1]
        simp only [PSt.cutAt, List.set_set]
        have e2 : (st.sf.set r.toNat (⟨(ss[r.toNat]'hn).sf.all ++ (pushR most (ss[r.toNat]'hn).sf l).2, (ss[r.toNat]'hn).sf.cut⟩ : Sf)).getD r.toNat Sf.none = ⟨(ss[r.toNat]'hn).sf.all ++ (pushR most (ss[r.toNat]'hn).sf l).2, (ss[r.toNat]'hn).sf.cut⟩ := by
          simp [List.getD_eq_getElem?_getD, hrl]
        rw [e2, ← hxf]
      rw [he]
      have h2 := PoA.cls (g := g) (most := most) (st := ⟨st.told, st.sf.set r.toNat x.sf⟩) (vs := vs) (vt := vt) (hset _ rfl) M
      exact ⟨_, h2, rfl, rfl⟩
theorem post_NewA (c : Cfg) (M : List Assn) : Fn Try.prog 10 #[.agg (Rep.cells c).toArray] M
    fun v L' => ∃ g : Nat, v = .pointer (some ⟨g, 0, none⟩) ∧ L' = PoA g c.w ⟨List.replicate (min (max c.n 0) 5).toNat Clk.zero, List.replicate (min (max c.n 0) 5).toNat Sf.none⟩ :: M := by
  refine (post_New c M).res ?_
  rintro v L' ⟨g, vs, vt, ss, rfl, ovs, hsl, hss, rfl⟩
  have h : ss.map Sh.sf = List.replicate (min (max c.n 0) 5).toNat Sf.none := by
    rw [← hsl]
    refine List.ext_getElem (by simp) fun i h1 h2 => ?_
    rw [List.getElem_map, List.getElem_replicate]
    exact hss _ (List.getElem_mem _)
  exact ⟨_, PoA.cls (st := ⟨List.replicate (min (max c.n 0) 5).toNat Clk.zero, List.replicate (min (max c.n 0) 5).toNat Sf.none⟩) h M, g, rfl, rfl⟩
end Go.Proofs.Ytkcpgdkchglhhaa
/- Rows of a replica's events. No condition. -/
namespace Go.Proofs.Ytkcpgdkchglhhaa
open Go.RowKit
set_option linter.unusedSimpArgs false
set_option linter.unusedVariables false
def evR (r n : Int) : Ev := ⟨r, n, ⟨0, 0, 0, 0, 0⟩, 1, ⟨0, [], 0, []⟩⟩
def rowR (r a : Int) (m : Nat) : List Ev := (List.range m).map fun (i : Nat) => evR r (a + i)
theorem rowR_len (r a : Int) (m : Nat) : (rowR r a m).length = m := by simp [rowR]
theorem rowR_get (r a : Int) (m i : Nat) (h : i < (rowR r a m).length) : (rowR r a m)[i] = evR r (a + i) := by simp [rowR]
theorem rowR_succ (r a : Int) (m : Nat) : rowR r a (m + 1) = rowR r a m ++ [evR r (a + m)] := by simp [rowR, List.range_succ]
theorem rowR_drop (r a : Int) (m k : Nat) : (rowR r a m).drop k = rowR r (a + k) (m - k) := by
  apply List.ext_getElem
  · simp [rowR_len]
  · intro i h1 h2
    rw [List.getElem_drop, rowR_get, rowR_get]
    congr 1
    omega
theorem rowR_app (r a : Int) (m k : Nat) : rowR r a m ++ rowR r (a + m) k = rowR r a (m + k) := by
  induction k with
  | zero => simp [rowR]
  | succ k ih =>
    rw [← Nat.add_assoc, rowR_succ, rowR_succ, ← ih, List.append_assoc]
    congr 3
    congr 1
    omega
theorem rowR_mem {r a : Int} {m : Nat} {e : Ev} (h : e ∈ rowR r a m) : ∃ i : Nat, i < m ∧ e = evR r (a + i) := by
  simp only [rowR, List.mem_map, List.mem_range] at h
  obtain ⟨i, hi, rfl⟩ := h
  exact ⟨i, hi, rfl⟩
theorem rowR_gap (len r a : Int) (m : Nat) : GapOk len (rowR r a m) ↔ m = 0 ∨ a ≤ len + 1 := by
  unfold GapOk
  constructor
  · intro h
    by_cases hm : m = 0
    · exact .inl hm
    · have := (h (by rw [rowR_len]; omega)).1
      rw [rowR_get] at this
      simp [evR] at this
      exact .inr this
  · rintro (h | h) hl
    · rw [rowR_len] at hl; omega
    · refine ⟨by rw [rowR_get]; simp [evR]; exact h, fun j hj => ?_⟩
      rw [rowR_get, rowR_get]
      simp [evR]
theorem rowR_fresh (len r a : Int) (m : Nat) (h : a ≤ len + 1) : fresh len (rowR r a m) = rowR r (len + 1) (m - (len + 1 - a).toNat) := by
  have hg : GapOk len (rowR r a m) := (rowR_gap len r a m).2 (.inr h)
  obtain ⟨j, hj⟩ : ∃ j, j = min m (len + 1 - a).toNat := ⟨_, rfl⟩
  rw [fresh_drop hg j (by rw [rowR_len]; omega) (fun i hi hij => by rw [rowR_get]; simp [evR]; omega) (by
    by_cases hm : j = m
    · left; rw [rowR_len]; exact hm
    · right; exact ⟨by rw [rowR_len]; omega, by rw [rowR_get]; simp [evR]; omega⟩)]
  apply List.ext_getElem
  · simp [rowR_len]; omega
  · intro i h1 h2
    rw [List.getElem_drop, rowR_get, rowR_get]
    simp only [List.length_drop, rowR_len] at h1
    congr 1
    omega
set_option maxRecDepth 20000 attribute [local irreducible] Ex ExL Fn thn inb rnd fin meet Tab Mix mxEnd Val Sats RdT Rd RowT Row Blk Sub Fac ResV RVal Evs subs subs3 Hid Capd
set_option maxHeartbeats 1000000 in
theorem row_F (r a : Int) (m : Int) (M : List Assn) (ha : -1000000000 ≤ a ∧ a ≤ 1000000000) (hm : m ≤ 1000000) : Fn Try.prog 16 #[.int .i64 r, .int .i64 a, .int .i64 m] M fun v L' => v.oneCell' = true ∧ L' = Evs_ v (rowR r a m.toNat) :: M := by
  refine Fn.of_ex Try.func16 rfl Try.ntmps16 rfl ?_
  (repeat' (first | refine ExL.val rJ rJ rJ rV ?_ | (first | refine Ex.seq ?_ | refine Ex.region ?_ | refine ExL.nil ?_ | refine thn_n ?_ | refine Ex.cond_t rJ ?_ | refine Ex.cond_f rJ ?_ | refine Ex.skip ?_ | refine Ex.block ?_ | refine Ex.exit ?_ | refine Ex.ret ?_ | refine thn_exit ?_ | refine thn_ret ?_ | refine inb_n ?_ | refine inb_hit rJ ?_ | refine inb_miss rJ ?_ | refine inb_ret ?_ | refine rnd_exit ?_ | refine rnd_ret ?_ | refine meet_ret ?_ | refine meet_exit ?_) | (apply exlGuard; first | refine ExL.gskip rJ rJ rJ rJ rJ rJ ?_ | refine ExL.gtake rJ rJ rJ rJ ?_ | refine ExL.gskipU rJ rJ rJ rJ ?_ | (refine ExL.gsplit rJ rJ rJ (fun h => ?_) (fun h => ?_) <;> try (exfalso; omega))) | (first | refine st_new_ rJ rE (fun g => ?_) | refine st_boxA rJ rJ (fun g => ?_) | refine st_box1 rJ rE rN (fun g => ?_) | (apply exlStore; first | refine st_store1_ _ rJ rK rE rN rJ rJ rE rE ?_ | refine st_storeW_ _ rJ rK rJ rC rJ rJ rJ rE ?_ | refine st_storeR _ rJ rK rJ rE rJ rJ rE ?_ | refine st_storeA_ _ rJ rK rJ rC rJ rJ rJ rE rE ?_ | refine st_storeB _ rJ rJ rO rO rK rJ rO ?_ | refine st_storeG _ rJ rK rE rN rJ rO (fun cs hcs => ?_)) | refine st_slice0 rJ rJ rJ rJ (fun g => ?_) | refine st_slice1T rJ rJ rJ rJ (fun g => ?_) | refine st_makeT rJ rJ rJ rJ rE rJ rO rO (fun v o => ?_) | (apply exlCopy; first | refine st_copyW _ rJ rE rK rE rD rJ rE rJ (fun zs hzs => ?_) | refine st_copyS _ rJ rJ rK rE rD rJ rE rJ rO rO (fun zs hzs => ?_)) | refine st_sliceB rJ rJ rJ rJ rJ rJ rJ rL rE rE rJ (fun g => ?_) | refine st_slice1I rJ rJ rJ rJ rJ rJ (fun g => ?_) | refine st_slice1B rJ rJ rJ rJ rJ rJ rO rO (fun g => ?_) | refine st_slice1S rJ rJ rJ rJ rJ rJ (fun g => ?_) | refine st_slice2B rJ rJ rJ rJ rJ rJ rJ rO rO rO rO (fun g => ?_) | (apply exlConv; first | refine st_bytes rJ rJ rJ rJ rJ rO (fun v o => ?_) | refine st_mark _ rJ rJ rK rJ rJ rJ ?_) | refine st_clear _ (0 : UInt8) rJ rK rJ rJ rJ rJ rJ rO ?_ | refine st_clearT _ rJ rK rO rJ rJ rO rE ?_ | (apply exlAppend; first | refine st_app0 rJ rJ rE rD rJ rE rJ rE rJ rJ rJ rO (fun v o => ?_) | refine st_app _ rJ rE rK rE rD rJ rE rJ rE rJ rJ rJ rO (fun v o => ?_) | refine st_shift _ rJ rJ rJ rK rO rJ rJ rJ rO rO rE ?_)) | (refine Ex.cond_d rJ (fun h => ?_) (fun h => ?_) <;> try (exfalso; omega))))
  refine Ex.sub ?_ (Sub.empty (α := Ev) (some ⟨g, 0, none⟩) 55 M)
  refine Ex.loop [7, 8] (fun q vs L' => ∃ (i : Nat) (v : Value), i ≤ m.toNat ∧ q = m.toNat - i ∧ v.oneCell' = true ∧ vs = [v, .int .i64 i] ∧ L' = Evs_ v (rowR r a i) :: M) m.toNat ⟨0, _, by omega, by omega, rfl, lcons rfl (lcons (vint (by omega)) rfl), rfl⟩ ?_
  rintro q vs g1 L' ⟨i, v0, hi, rfl, ho, rfl, rfl⟩
  have hl := rowR_len r a i
  by_cases hlt : i < m
  · (repeat' (first | refine ExL.val rJ rJ rJ rV ?_ | (first | refine Ex.seq ?_ | refine Ex.region ?_ | refine ExL.nil ?_ | refine thn_n ?_ | refine Ex.cond_t rJ ?_ | refine Ex.cond_f rJ ?_ | refine Ex.skip ?_ | refine Ex.block ?_ | refine Ex.exit ?_ | refine Ex.ret ?_ | refine thn_exit ?_ | refine thn_ret ?_ | refine inb_n ?_ | refine inb_hit rJ ?_ | refine inb_miss rJ ?_ | refine inb_ret ?_ | refine rnd_exit ?_ | refine rnd_ret ?_ | refine meet_ret ?_ | refine meet_exit ?_) | (apply exlGuard; first | refine ExL.gskip rJ rJ rJ rJ rJ rJ ?_ | refine ExL.gtake rJ rJ rJ rJ ?_ | refine ExL.gskipU rJ rJ rJ rJ ?_ | (refine ExL.gsplit rJ rJ rJ (fun h => ?_) (fun h => ?_) <;> try (exfalso; omega))) | (first | refine st_new_ rJ rE (fun g => ?_) | refine st_boxA rJ rJ (fun g => ?_) | refine st_box1 rJ rE rN (fun g => ?_) | (apply exlStore; first | refine st_store1_ _ rJ rK rE rN rJ rJ rE rE ?_ | refine st_storeW_ _ rJ rK rJ rC rJ rJ rJ rE ?_ | refine st_storeR _ rJ rK rJ rE rJ rJ rE ?_ | refine st_storeA_ _ rJ rK rJ rC rJ rJ rJ rE rE ?_ | refine st_storeB _ rJ rJ rO rO rK rJ rO ?_ | refine st_storeG _ rJ rK rE rN rJ rO (fun cs hcs => ?_)) | refine st_slice0 rJ rJ rJ rJ (fun g => ?_) | refine st_slice1T rJ rJ rJ rJ (fun g => ?_) | refine st_makeT rJ rJ rJ rJ rE rJ rO rO (fun v o => ?_) | (apply exlCopy; first | refine st_copyW _ rJ rE rK rE rD rJ rE rJ (fun zs hzs => ?_) | refine st_copyS _ rJ rJ rK rE rD rJ rE rJ rO rO (fun zs hzs => ?_)) | refine st_sliceB rJ rJ rJ rJ rJ rJ rJ rL rE rE rJ (fun g => ?_) | refine st_slice1I rJ rJ rJ rJ rJ rJ (fun g => ?_) | refine st_slice1B rJ rJ rJ rJ rJ rJ rO rO (fun g => ?_) | refine st_slice1S rJ rJ rJ rJ rJ rJ (fun g => ?_) | refine st_slice2B rJ rJ rJ rJ rJ rJ rJ rO rO rO rO (fun g => ?_) | (apply exlConv; first | refine st_bytes rJ rJ rJ rJ rJ rO (fun v o => ?_) | refine st_mark _ rJ rJ rK rJ rJ rJ ?_) | refine st_clear _ (0 : UInt8) rJ rK rJ rJ rJ rJ rJ rO ?_ | refine st_clearT _ rJ rK rO rJ rJ rO rE ?_ | (apply exlAppend; first | refine st_app0 rJ rJ rE rD rJ rE rJ rE rJ rJ rJ rO (fun v o => ?_) | refine st_app _ rJ rE rK rE rD rJ rE rJ rE rJ rJ rJ rO (fun v o => ?_) | refine st_shift _ rJ rJ rJ rK rO rJ rJ rJ rO rO rE ?_)) | (refine Ex.cond_d rJ (fun h => ?_) (fun h => ?_) <;> try (exfalso; omega))))
    refine st_slice1T (a := evR r (a + i)) rJ rJ rJ rJ (fun g => ?_)
    (repeat' (first | refine ExL.val rJ rJ rJ rV ?_ | (first | refine Ex.seq ?_ | refine Ex.region ?_ | refine ExL.nil ?_ | refine thn_n ?_ | refine Ex.cond_t rJ ?_ | refine Ex.cond_f rJ ?_ | refine Ex.skip ?_ | refine Ex.block ?_ | refine Ex.exit ?_ | refine Ex.ret ?_ | refine thn_exit ?_ | refine thn_ret ?_ | refine inb_n ?_ | refine inb_hit rJ ?_ | refine inb_miss rJ ?_ | refine inb_ret ?_ | refine rnd_exit ?_ | refine rnd_ret ?_ | refine meet_ret ?_ | refine meet_exit ?_) | (apply exlGuard; first | refine ExL.gskip rJ rJ rJ rJ rJ rJ ?_ | refine ExL.gtake rJ rJ rJ rJ ?_ | refine ExL.gskipU rJ rJ rJ rJ ?_ | (refine ExL.gsplit rJ rJ rJ (fun h => ?_) (fun h => ?_) <;> try (exfalso; omega))) | (first | refine st_new_ rJ rE (fun g => ?_) | refine st_boxA rJ rJ (fun g => ?_) | refine st_box1 rJ rE rN (fun g => ?_) | (apply exlStore; first | refine st_store1_ _ rJ rK rE rN rJ rJ rE rE ?_ | refine st_storeW_ _ rJ rK rJ rC rJ rJ rJ rE ?_ | refine st_storeR _ rJ rK rJ rE rJ rJ rE ?_ | refine st_storeA_ _ rJ rK rJ rC rJ rJ rJ rE rE ?_ | refine st_storeB _ rJ rJ rO rO rK rJ rO ?_ | refine st_storeG _ rJ rK rE rN rJ rO (fun cs hcs => ?_)) | refine st_slice0 rJ rJ rJ rJ (fun g => ?_) | refine st_slice1T rJ rJ rJ rJ (fun g => ?_) | refine st_makeT rJ rJ rJ rJ rE rJ rO rO (fun v o => ?_) | (apply exlCopy; first | refine st_copyW _ rJ rE rK rE rD rJ rE rJ (fun zs hzs => ?_) | refine st_copyS _ rJ rJ rK rE rD rJ rE rJ rO rO (fun zs hzs => ?_)) | refine st_sliceB rJ rJ rJ rJ rJ rJ rJ rL rE rE rJ (fun g => ?_) | refine st_slice1I rJ rJ rJ rJ rJ rJ (fun g => ?_) | refine st_slice1B rJ rJ rJ rJ rJ rJ rO rO (fun g => ?_) | refine st_slice1S rJ rJ rJ rJ rJ rJ (fun g => ?_) | refine st_slice2B rJ rJ rJ rJ rJ rJ rJ rO rO rO rO (fun g => ?_) | (apply exlConv; first | refine st_bytes rJ rJ rJ rJ rJ rO (fun v o => ?_) | refine st_mark _ rJ rJ rK rJ rJ rJ ?_) | refine st_clear _ (0 : UInt8) rJ rK rJ rJ rJ rJ rJ rO ?_ | refine st_clearT _ rJ rK rO rJ rJ rO rE ?_ | (apply exlAppend; first | refine st_app0 rJ rJ rE rD rJ rE rJ rE rJ rJ rJ rO (fun v o => ?_) | refine st_app _ rJ rE rK rE rD rJ rE rJ rE rJ rJ rJ rO (fun v o => ?_) | refine st_shift _ rJ rJ rJ rK rO rJ rJ rJ rO rO rE ?_)) | (refine Ex.cond_d rJ (fun h => ?_) (fun h => ?_) <;> try (exfalso; omega))))
    refine rnd_n ⟨m.toNat - (i + 1), Evs_ v (rowR r a (i + 1)) :: M, by omega, ?_, i + 1, v, by omega, rfl, by assumption, lcons rfl (lcons (vint (by omega)) rfl), rfl⟩
    rw [rowR_succ]
    exact rB
  · obtain rfl : i = m.toNat := by omega
    (repeat' (first | refine ExL.val rJ rJ rJ rV ?_ | (first | refine Ex.seq ?_ | refine Ex.region ?_ | refine ExL.nil ?_ | refine thn_n ?_ | refine Ex.cond_t rJ ?_ | refine Ex.cond_f rJ ?_ | refine Ex.skip ?_ | refine Ex.block ?_ | refine Ex.exit ?_ | refine Ex.ret ?_ | refine thn_exit ?_ | refine thn_ret ?_ | refine inb_n ?_ | refine inb_hit rJ ?_ | refine inb_miss rJ ?_ | refine inb_ret ?_ | refine rnd_exit ?_ | refine rnd_ret ?_ | refine meet_ret ?_ | refine meet_exit ?_) | (apply exlGuard; first | refine ExL.gskip rJ rJ rJ rJ rJ rJ ?_ | refine ExL.gtake rJ rJ rJ rJ ?_ | refine ExL.gskipU rJ rJ rJ rJ ?_ | (refine ExL.gsplit rJ rJ rJ (fun h => ?_) (fun h => ?_) <;> try (exfalso; omega))) | (first | refine st_new_ rJ rE (fun g => ?_) | refine st_boxA rJ rJ (fun g => ?_) | refine st_box1 rJ rE rN (fun g => ?_) | (apply exlStore; first | refine st_store1_ _ rJ rK rE rN rJ rJ rE rE ?_ | refine st_storeW_ _ rJ rK rJ rC rJ rJ rJ rE ?_ | refine st_storeR _ rJ rK rJ rE rJ rJ rE ?_ | refine st_storeA_ _ rJ rK rJ rC rJ rJ rJ rE rE ?_ | refine st_storeB _ rJ rJ rO rO rK rJ rO ?_ | refine st_storeG _ rJ rK rE rN rJ rO (fun cs hcs => ?_)) | refine st_slice0 rJ rJ rJ rJ (fun g => ?_) | refine st_slice1T rJ rJ rJ rJ (fun g => ?_) | refine st_makeT rJ rJ rJ rJ rE rJ rO rO (fun v o => ?_) | (apply exlCopy; first | refine st_copyW _ rJ rE rK rE rD rJ rE rJ (fun zs hzs => ?_) | refine st_copyS _ rJ rJ rK rE rD rJ rE rJ rO rO (fun zs hzs => ?_)) | refine st_sliceB rJ rJ rJ rJ rJ rJ rJ rL rE rE rJ (fun g => ?_) | refine st_slice1I rJ rJ rJ rJ rJ rJ (fun g => ?_) | refine st_slice1B rJ rJ rJ rJ rJ rJ rO rO (fun g => ?_) | refine st_slice1S rJ rJ rJ rJ rJ rJ (fun g => ?_) | refine st_slice2B rJ rJ rJ rJ rJ rJ rJ rO rO rO rO (fun g => ?_) | (apply exlConv; first | refine st_bytes rJ rJ rJ rJ rJ rO (fun v o => ?_) | refine st_mark _ rJ rJ rK rJ rJ rJ ?_) | refine st_clear _ (0 : UInt8) rJ rK rJ rJ rJ rJ rJ rO ?_ | refine st_clearT _ rJ rK rO rJ rJ rO rE ?_ | (apply exlAppend; first | refine st_app0 rJ rJ rE rD rJ rE rJ rE rJ rJ rJ rO (fun v o => ?_) | refine st_app _ rJ rE rK rE rD rJ rE rJ rE rJ rJ rJ rO (fun v o => ?_) | refine st_shift _ rJ rJ rJ rK rO rJ rJ rJ rO rO rE ?_)) | (refine Ex.cond_d rJ (fun h => ?_) (fun h => ?_) <;> try (exfalso; omega))))
    (first | refine fin_ret rS ?_ | refine fin_norm rS ?_)
    exact ⟨_, rB, ho, rfl⟩
end Go.Proofs.Ytkcpgdkchglhhaa
/- kithref11.Fit, walked. No condition. -/
namespace Go.Proofs.Ytkcpgdkchglhhaa
open Go.RowKit
set_option linter.unusedSimpArgs false
set_option linter.unusedVariables false
/-- A config that may be, of any. -/
def fitC (c : Cfg) : Cfg := ⟨1 + (c.n.tmod 5 + 5) % 5, 1 + (c.w.tmod 4 + 4) % 4, 1 + (c.q.tmod 8 + 8) % 8, 1 + (c.h.tmod 20 + 20) % 20, 1 + (c.l.tmod 4 + 4) % 4, 1 + (c.p.tmod 3 + 3) % 3⟩
structure Cfg.May (c : Cfg) : Prop where
  n : 1 ≤ c.n ∧ c.n ≤ 5
  w : 1 ≤ c.w ∧ c.w ≤ 4
  q : 1 ≤ c.q ∧ c.q ≤ 8
  h : 1 ≤ c.h ∧ c.h ≤ 20
  l : 1 ≤ c.l ∧ c.l ≤ 4
  p : 1 ≤ c.p ∧ c.p ≤ 3
theorem fitC_may (c : Cfg) : (fitC c).May := by
  refine ⟨?_, ?_, ?_, ?_, ?_, ?_⟩ <;> simp only [fitC] <;> omega
theorem tmod_bd (n : Int) (k : Int) (hk : 0 < k) : -k < n.tmod k ∧ n.tmod k < k := ⟨Int.lt_tmod_of_pos n hk, Int.tmod_lt_of_pos n hk⟩
set_option maxRecDepth 20000 attribute [local irreducible] Ex ExL Fn thn inb rnd fin meet Tab Mix mxEnd Val Sats RdT Rd RowT Row Blk Sub Fac ResV RVal Evs subs subs3 Hid Capd
theorem fitC_F (c : Cfg) (L : List Assn) : Fn Try.prog 9 #[.agg (Rep.cells c).toArray] L fun v L' => v = .agg (Rep.cells (fitC c)).toArray ∧ L' = L := by
  have h5 := tmod_bd c.n 5 (by omega)
  have h4 := tmod_bd c.w 4 (by omega)
  have h8 := tmod_bd c.q 8 (by omega)
  have h20 := tmod_bd c.h 20 (by omega)
  have h42 := tmod_bd c.l 4 (by omega)
  have h3 := tmod_bd c.p 3 (by omega)
  refine Fn.of_ex Try.func9 rfl Try.ntmps9 rfl ?_
  (repeat' (first | refine ExL.val rJ rJ rJ rV ?_ | (first | refine Ex.seq ?_ | refine Ex.region ?_ | refine ExL.nil ?_ | refine thn_n ?_ | refine Ex.cond_t rJ ?_ | refine Ex.cond_f rJ ?_ | refine Ex.skip ?_ | refine Ex.block ?_ | refine Ex.exit ?_ | refine Ex.ret ?_ | refine thn_exit ?_ | refine thn_ret ?_ | refine inb_n ?_ | refine inb_hit rJ ?_ | refine inb_miss rJ ?_ | refine inb_ret ?_ | refine rnd_exit ?_ | refine rnd_ret ?_ | refine meet_ret ?_ | refine meet_exit ?_) | (apply exlGuard; first | refine ExL.gskip rJ rJ rJ rJ rJ rJ ?_ | refine ExL.gtake rJ rJ rJ rJ ?_ | refine ExL.gskipU rJ rJ rJ rJ ?_ | (refine ExL.gsplit rJ rJ rJ (fun h => ?_) (fun h => ?_) <;> try (exfalso; omega))) | (first | refine st_new_ rJ rE (fun g => ?_) | refine st_boxA rJ rJ (fun g => ?_) | refine st_box1 rJ rE rN (fun g => ?_) | (apply exlStore; first | refine st_store1_ _ rJ rK rE rN rJ rJ rE rE ?_ | refine st_storeW_ _ rJ rK rJ rC rJ rJ rJ rE ?_ | refine st_storeR _ rJ rK rJ rE rJ rJ rE ?_ | refine st_storeA_ _ rJ rK rJ rC rJ rJ rJ rE rE ?_ | refine st_storeB _ rJ rJ rO rO rK rJ rO ?_ | refine st_storeG _ rJ rK rE rN rJ rO (fun cs hcs => ?_)) | refine st_slice0 rJ rJ rJ rJ (fun g => ?_) | refine st_slice1T rJ rJ rJ rJ (fun g => ?_) | refine st_makeT rJ rJ rJ rJ rE rJ rO rO (fun v o => ?_) | (apply exlCopy; first | refine st_copyW _ rJ rE rK rE rD rJ rE rJ (fun zs hzs => ?_) | refine st_copyS _ rJ rJ rK rE rD rJ rE rJ rO rO (fun zs hzs => ?_)) | refine st_sliceB rJ rJ rJ rJ rJ rJ rJ rL rE rE rJ (fun g => ?_) | refine st_slice1I rJ rJ rJ rJ rJ rJ (fun g => ?_) | refine st_slice1B rJ rJ rJ rJ rJ rJ rO rO (fun g => ?_) | refine st_slice1S rJ rJ rJ rJ rJ rJ (fun g => ?_) | refine st_slice2B rJ rJ rJ rJ rJ rJ rJ rO rO rO rO (fun g => ?_) | (apply exlConv; first | refine st_bytes rJ rJ rJ rJ rJ rO (fun v o => ?_) | refine st_mark _ rJ rJ rK rJ rJ rJ ?_) | refine st_clear _ (0 : UInt8) rJ rK rJ rJ rJ rJ rJ rO ?_ | refine st_clearT _ rJ rK rO rJ rJ rO rE ?_ | (apply exlAppend; first | refine st_app0 rJ rJ rE rD rJ rE rJ rE rJ rJ rJ rO (fun v o => ?_) | refine st_app _ rJ rE rK rE rD rJ rE rJ rE rJ rJ rJ rO (fun v o => ?_) | refine st_shift _ rJ rJ rJ rK rO rJ rJ rJ rO rO rE ?_)) | (refine Ex.cond_d rJ (fun h => ?_) (fun h => ?_) <;> try (exfalso; omega))))
  (first | refine fin_ret rS ?_ | refine fin_norm rS ?_)
  exact ⟨_, rB, rfl, rfl⟩
end Go.Proofs.Ytkcpgdkchglhhaa
/- Fields and elements of whole values. No condition. -/
namespace Go.Proofs.Ytkcpgdkchglhhaa
open Go.RowKit
set_option linter.unusedSimpArgs false
set_option linter.unusedVariables false
section
variable {P : Program} {f : Nat → Value} {L : List Assn} {d : Nat} {ty : TypeId} {pos : String} {af : Array Edge} {gd : Option (Nat × Bool)}
theorem extract_toArray (cs : List Value) (o m : Nat) : cs.toArray.extract o (o + m) = ((cs.drop o).take m).toArray := by
  simp [List.take_drop]
/-- x.f, of a whole structure: a structure or an array. -/
theorem vl_fieldV {s : TypeId} {x : Operand} {fi m : Nat} {fs : Array Field} {fd : Field} {cs ws : List Value} (hx : evalF f x = .agg cs.toArray) (hu : P.underlying s = some (.struct fs)) (hf : fs[fi]? = some fd) (hA : aggB P fd.type = some true) (hm : P.cellsOf fd.type = m)
    (hp : Nat.blt 0 m = true) (hl : seqL ((cs.drop fd.offset).take m) = some ws) : Val P ⟨some d, .field s x fi, ty, pos, af, gd⟩ f L (.agg ws.toArray) := fun F w h => by
  rw [← seqL_eq hl, ← extract_toArray]
  simp [execOp, hx, Instr.field, run_underlying hu, hf, asAgg, part, run_isAgg w hA, run_sizeOf' w hm (Nat.le_of_ble_eq_true hp)]
/-- x.f, of a whole structure: one cell. -/
theorem vl_field1V {s : TypeId} {x : Operand} {fi : Nat} {fs : Array Field} {fd : Field} {cs : List Value} {v : Value} (hx : evalF f x = .agg cs.toArray) (hu : P.underlying s = some (.struct fs)) (hf : fs[fi]? = some fd) (hA : aggB P fd.type = some false)
    (hl : cs[fd.offset]? = some v) : Val P ⟨some d, .field s x fi, ty, pos, af, gd⟩ f L v := fun F w h => by
  simp [execOp, hx, Instr.field, run_underlying hu, hf, asAgg, part, run_isAgg w hA, hl]
/-- x[j], of a whole array: one cell. -/
theorem vl_index1V {t e : TypeId} {x y : Operand} {k : IntKind} {n j : Nat} {cs : List Value} {v : Value} (hx : evalF f x = .agg cs.toArray) (hy : evalF f y = .int k (j : Int)) (hu : P.underlying t = some (.array n e)) (hA : aggB P e = some false) (hs : P.cellsOf e = 1) (hj : Nat.blt j n = true)
    (hl : cs[j]? = some v) : Val P ⟨some d, .index t x y, ty, pos, af, gd⟩ f L v := fun F w h => by
  have hj : j < n := Nat.le_of_ble_eq_true hj
  simp [execOp, hx, hy, Instr.index, run_underlying hu, asIntOf, part, run_isAgg w hA, run_sizeOf' w hs (Nat.succ_pos 0), hl, hj]
/-- c[j], of a whole clock, at any place. -/
theorem vl_indexC {t e : TypeId} {x y : Operand} {k : IntKind} {j : Int} {a b c d' e' : Int} (hx : evalF f x = .agg [.int .i64 a, .int .i64 b, .int .i64 c, .int .i64 d', .int .i64 e'].toArray) (hy : evalF f y = .int k j) (hu : P.underlying t = some (.array 5 e)) (hA : aggB P e = some false) (hs : P.cellsOf e = 1) (h0 : 0 ≤ j) (h1 : j < 5) :
    Val P ⟨some d, .index t x y, ty, pos, af, gd⟩ f L (.int .i64 ((⟨a, b, c, d', e'⟩ : Clk).get j.toNat)) := fun F w h => by
  obtain ⟨i, rfl⟩ := Int.eq_ofNat_of_zero_le h0
  have hi : i < 5 := by omega
  have hl : [Value.int .i64 a, .int .i64 b, .int .i64 c, .int .i64 d', .int .i64 e'][i]? = some (.int .i64 ((⟨a, b, c, d', e'⟩ : Clk).get i)) := by
    match i, hi with
    | 0, _ => rfl
    | 1, _ => rfl
    | 2, _ => rfl
    | 3, _ => rfl
    | 4, _ => rfl
  simp [execOp, hx, hy, Instr.index, run_underlying hu, asIntOf, part, run_isAgg w hA, run_sizeOf' w hs (Nat.succ_pos 0), hi]
  exact (List.getElem?_eq_some_iff.1 hl).2
end
end Go.Proofs.Ytkcpgdkchglhhaa
