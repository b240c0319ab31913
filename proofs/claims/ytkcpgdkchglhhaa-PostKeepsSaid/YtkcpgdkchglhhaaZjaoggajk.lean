/- Several texts, one behind the other; each says in its head what it proves. No condition. -/
import Derived.Test.YtkcpgdkchglhhaaZmhlbmdpl
import Derived.Test.YtkcpgdkchglhhaaZldjckhlk
/- The document's example of layer 16. No condition. -/
namespace Go.Proofs.Ytkcpgdkchglhhaa
open Go.RowKit
set_option linter.unusedSimpArgs false
set_option linter.unusedVariables false
def x16 : Ev := ⟨0, 1, ⟨0, 0, 0, 0, 0⟩, 1, ⟨1, [99, 121], 0, []⟩⟩
def s16a : PSt := ⟨[Clk.zero, Clk.zero], [Sf.none, Sf.none]⟩
def s16b : PSt := ⟨[Clk.zero, Clk.zero], [⟨[x16], 0⟩, Sf.none]⟩
def s16c : PSt := ⟨[Clk.zero, ⟨1, 0, 0, 0, 0⟩], [⟨[x16], 0⟩, Sf.none]⟩
def s16d : PSt := ⟨[⟨1, 0, 0, 0, 0⟩, ⟨1, 0, 0, 0, 0⟩], [⟨[x16], 1⟩, Sf.none]⟩
theorem s16_push : s16a.push 1 0 [x16] = (1, 0, s16b) := by
  have h1 : GapOk (0 : Int) [x16] := fun h => ⟨by simp [x16], fun j hj => by
    have : j = 0 := by simpa using hj
    subst this; simp [x16]⟩
  have h2 : fresh (0 : Int) [x16] = [x16] := rfl
  have h3 : (Sf.none).put 1 [x16] = (0, ⟨[x16], 0⟩) := by
    unfold Sf.put Sf.none
    have : putR 1 (([] : List Ev).length : Nat) ((([] : List Ev).length - 0 : Nat) : Int) [x16] = (0, [x16]) := by
      rw [show ((([] : List Ev).length : Nat) : Int) = 0 from rfl, putR_ok h1 (by right; rw [h2]; decide), h2]
    rw [this]
    rfl
  unfold PSt.push
  rw [if_neg (by
    rintro (h | ⟨e, he, h⟩)
    · exact h (by decide)
    · rw [List.mem_singleton] at he
      subst he
      exact h rfl)]
  rw [show s16a.sf.getD (0 : Int).toNat Sf.none = Sf.none from rfl, h3]
  rfl
theorem x16_I : ∀ e ∈ [x16], I64 e.n := fun e he => by rw [List.mem_singleton] at he; subst he; exact ⟨by decide, by decide⟩
theorem s16_fetch : s16b.fetch 1 ⟨0, 0, 0, 0, 0⟩ = ([x16], 0) := by rfl
theorem s16_ack1 : s16b.ack 1 ⟨1, 0, 0, 0, 0⟩ = (0, s16c) := by rfl
theorem s16_ack2 : s16c.ack 0 ⟨1, 0, 0, 0, 0⟩ = (0, s16d) := by rfl
theorem s16_okA : s16a.Ok 1000000 := ⟨by decide, rfl, fun x hx => by simp [s16a, Sf.none] at hx; subst hx; exact ⟨Nat.le_refl _, by decide⟩⟩
theorem s16_okB : s16b.Ok 1000000 := ⟨by decide, rfl, fun x hx => by
  simp [s16b, Sf.none] at hx; rcases hx with rfl | rfl <;> exact ⟨by simp [Sf.Ok], by simp⟩⟩
theorem s16_okC : s16c.Ok 1000000 := ⟨by decide, rfl, fun x hx => by
  simp [s16c, Sf.none] at hx; rcases hx with rfl | rfl <;> exact ⟨by simp [Sf.Ok], by simp⟩⟩
theorem s16_okD : s16d.Ok 1000000 := ⟨by decide, rfl, fun x hx => by
  simp [s16d, Sf.none] at hx; rcases hx with rfl | rfl <;> exact ⟨by simp [Sf.Ok], by simp⟩⟩
theorem s16_new (M : List Assn) : Fn Try.prog 10 #[.agg (Rep.cells (⟨2, 1, 1, 2, 1, 1⟩ : Cfg)).toArray] M
    fun v L' => ∃ g : Nat, v = .pointer (some ⟨g, 0, none⟩) ∧ L' = PoA g 1 s16a :: M := post_NewA _ M
set_option maxRecDepth 20000 attribute [local irreducible] Ex ExL Fn thn inb rnd fin meet Tab Mix mxEnd Val Sats RdT Rd RowT Row Blk Sub Fac ResV RVal Evs subs subs3 Hid Capd
attribute [local irreducible] PoA
set_option maxHeartbeats 2000000 in
theorem shown16_fn (L : List Assn) : Fn Try.prog 8 #[] L fun v L' => v = .bool true ∧ L' = L := by
  refine Fn.of_ex Try.func8 rfl Try.ntmps8 rfl ?_
  (repeat' (first | refine ExL.val rJ rJ rJ rV ?_ | (first | refine Ex.seq ?_ | refine Ex.region ?_ | refine ExL.nil ?_ | refine thn_n ?_ | refine Ex.cond_t rJ ?_ | refine Ex.cond_f rJ ?_ | refine Ex.skip ?_ | refine Ex.block ?_ | refine Ex.exit ?_ | refine Ex.ret ?_ | refine thn_exit ?_ | refine thn_ret ?_ | refine inb_n ?_ | refine inb_hit rJ ?_ | refine inb_miss rJ ?_ | refine inb_ret ?_ | refine rnd_exit ?_ | refine rnd_ret ?_ | refine meet_ret ?_ | refine meet_exit ?_) | (apply exlGuard; first | refine ExL.gskip rJ rJ rJ rJ rJ rJ ?_ | refine ExL.gtake rJ rJ rJ rJ ?_ | refine ExL.gskipU rJ rJ rJ rJ ?_ | (refine ExL.gsplit rJ rJ rJ (fun h => ?_) (fun h => ?_) <;> try (exfalso; omega))) | (first | refine st_new_ rJ rE (fun g => ?_) | refine st_boxA rJ rJ (fun g => ?_) | refine st_box1 rJ rE rN (fun g => ?_) | (apply exlStore; first | refine st_store1_ _ rJ rK rE rN rJ rJ rE rE ?_ | refine st_storeW_ _ rJ rK rJ rC rJ rJ rJ rE ?_ | refine st_storeR _ rJ rK rJ rE rJ rJ rE ?_ | refine st_storeA_ _ rJ rK rJ rC rJ rJ rJ rE rE ?_ | refine st_storeB _ rJ rJ rO rO rK rJ rO ?_ | refine st_storeG _ rJ rK rE rN rJ rO (fun cs hcs => ?_)) | refine st_slice0 rJ rJ rJ rJ (fun g => ?_) | refine st_slice1T rJ rJ rJ rJ (fun g => ?_) | refine st_makeT rJ rJ rJ rJ rE rJ rO rO (fun v o => ?_) | (apply exlCopy; first | refine st_copyW _ rJ rE rK rE rD rJ rE rJ (fun zs hzs => ?_) | refine st_copyS _ rJ rJ rK rE rD rJ rE rJ rO rO (fun zs hzs => ?_)) | refine st_sliceB rJ rJ rJ rJ rJ rJ rJ rL rE rE rJ (fun g => ?_) | refine st_slice1I rJ rJ rJ rJ rJ rJ (fun g => ?_) | refine st_slice1B rJ rJ rJ rJ rJ rJ rO rO (fun g => ?_) | refine st_slice1S rJ rJ rJ rJ rJ rJ (fun g => ?_) | refine st_slice2B rJ rJ rJ rJ rJ rJ rJ rO rO rO rO (fun g => ?_) | (apply exlConv; first | refine st_bytes rJ rJ rJ rJ rJ rO (fun v o => ?_) | refine st_mark _ rJ rJ rK rJ rJ rJ ?_) | refine st_clear _ (0 : UInt8) rJ rK rJ rJ rJ rJ rJ rO ?_ | refine st_clearT _ rJ rK rO rJ rJ rO rE ?_ | (apply exlAppend; first | refine st_app0 rJ rJ rE rD rJ rE rJ rE rJ rJ rJ rO (fun v o => ?_) | refine st_app _ rJ rE rK rE rD rJ rE rJ rE rJ rJ rJ rO (fun v o => ?_) | refine st_shift _ rJ rJ rJ rK rO rJ rJ rJ rO rO rE ?_)) | (refine Ex.cond_d rJ (fun h => ?_) (fun h => ?_) <;> try (exfalso; omega))))
  refine st_callIs [] rJ Try.call10 rJ rJ (s16_new _) ?_
  rintro _ _ ⟨g0, rfl, rfl⟩
  (repeat' (first | refine ExL.val rJ rJ rJ rV ?_ | (first | refine Ex.seq ?_ | refine Ex.region ?_ | refine ExL.nil ?_ | refine thn_n ?_ | refine Ex.cond_t rJ ?_ | refine Ex.cond_f rJ ?_ | refine Ex.skip ?_ | refine Ex.block ?_ | refine Ex.exit ?_ | refine Ex.ret ?_ | refine thn_exit ?_ | refine thn_ret ?_ | refine inb_n ?_ | refine inb_hit rJ ?_ | refine inb_miss rJ ?_ | refine inb_ret ?_ | refine rnd_exit ?_ | refine rnd_ret ?_ | refine meet_ret ?_ | refine meet_exit ?_) | (apply exlGuard; first | refine ExL.gskip rJ rJ rJ rJ rJ rJ ?_ | refine ExL.gtake rJ rJ rJ rJ ?_ | refine ExL.gskipU rJ rJ rJ rJ ?_ | (refine ExL.gsplit rJ rJ rJ (fun h => ?_) (fun h => ?_) <;> try (exfalso; omega))) | (first | refine st_new_ rJ rE (fun g => ?_) | refine st_boxA rJ rJ (fun g => ?_) | refine st_box1 rJ rE rN (fun g => ?_) | (apply exlStore; first | refine st_store1_ _ rJ rK rE rN rJ rJ rE rE ?_ | refine st_storeW_ _ rJ rK rJ rC rJ rJ rJ rE ?_ | refine st_storeR _ rJ rK rJ rE rJ rJ rE ?_ | refine st_storeA_ _ rJ rK rJ rC rJ rJ rJ rE rE ?_ | refine st_storeB _ rJ rJ rO rO rK rJ rO ?_ | refine st_storeG _ rJ rK rE rN rJ rO (fun cs hcs => ?_)) | refine st_slice0 rJ rJ rJ rJ (fun g => ?_) | refine st_slice1T rJ rJ rJ rJ (fun g => ?_) | refine st_makeT rJ rJ rJ rJ rE rJ rO rO (fun v o => ?_) | (apply exlCopy; first | refine st_copyW _ rJ rE rK rE rD rJ rE rJ (fun zs hzs => ?_) | refine st_copyS _ rJ rJ rK rE rD rJ rE rJ rO rO (fun zs hzs => ?_)) | refine st_sliceB rJ rJ rJ rJ rJ rJ rJ rL rE rE rJ (fun g => ?_) | refine st_slice1I rJ rJ rJ rJ rJ rJ (fun g => ?_) | refine st_slice1B rJ rJ rJ rJ rJ rJ rO rO (fun g => ?_) | refine st_slice1S rJ rJ rJ rJ rJ rJ (fun g => ?_) | refine st_slice2B rJ rJ rJ rJ rJ rJ rJ rO rO rO rO (fun g => ?_) | (apply exlConv; first | refine st_bytes rJ rJ rJ rJ rJ rO (fun v o => ?_) | refine st_mark _ rJ rJ rK rJ rJ rJ ?_) | refine st_clear _ (0 : UInt8) rJ rK rJ rJ rJ rJ rJ rO ?_ | refine st_clearT _ rJ rK rO rJ rJ rO rE ?_ | (apply exlAppend; first | refine st_app0 rJ rJ rE rD rJ rE rJ rE rJ rJ rJ rO (fun v o => ?_) | refine st_app _ rJ rE rK rE rD rJ rE rJ rE rJ rJ rJ rO (fun v o => ?_) | refine st_shift _ rJ rJ rJ rK rO rJ rJ rJ rO rO rE ?_)) | (refine Ex.cond_d rJ (fun h => ?_) (fun h => ?_) <;> try (exfalso; omega))))
  refine st_slice1T (a := x16) rJ rJ rJ rJ (fun g2 => ?_)
  refine st_callIs [2] rJ Try.call15 rE rJ (post_PushA g0 1 s16a 0 _ [x16] _ s16_okA rD (by decide) x16_I) ?_
  rw [s16_push]
  rintro _ _ ⟨rfl, rfl⟩
  (repeat' (first | refine ExL.val rJ rJ rJ rV ?_ | (first | refine Ex.seq ?_ | refine Ex.region ?_ | refine ExL.nil ?_ | refine thn_n ?_ | refine Ex.cond_t rJ ?_ | refine Ex.cond_f rJ ?_ | refine Ex.skip ?_ | refine Ex.block ?_ | refine Ex.exit ?_ | refine Ex.ret ?_ | refine thn_exit ?_ | refine thn_ret ?_ | refine inb_n ?_ | refine inb_hit rJ ?_ | refine inb_miss rJ ?_ | refine inb_ret ?_ | refine rnd_exit ?_ | refine rnd_ret ?_ | refine meet_ret ?_ | refine meet_exit ?_) | (apply exlGuard; first | refine ExL.gskip rJ rJ rJ rJ rJ rJ ?_ | refine ExL.gtake rJ rJ rJ rJ ?_ | refine ExL.gskipU rJ rJ rJ rJ ?_ | (refine ExL.gsplit rJ rJ rJ (fun h => ?_) (fun h => ?_) <;> try (exfalso; omega))) | (first | refine st_new_ rJ rE (fun g => ?_) | refine st_boxA rJ rJ (fun g => ?_) | refine st_box1 rJ rE rN (fun g => ?_) | (apply exlStore; first | refine st_store1_ _ rJ rK rE rN rJ rJ rE rE ?_ | refine st_storeW_ _ rJ rK rJ rC rJ rJ rJ rE ?_ | refine st_storeR _ rJ rK rJ rE rJ rJ rE ?_ | refine st_storeA_ _ rJ rK rJ rC rJ rJ rJ rE rE ?_ | refine st_storeB _ rJ rJ rO rO rK rJ rO ?_ | refine st_storeG _ rJ rK rE rN rJ rO (fun cs hcs => ?_)) | refine st_slice0 rJ rJ rJ rJ (fun g => ?_) | refine st_slice1T rJ rJ rJ rJ (fun g => ?_) | refine st_makeT rJ rJ rJ rJ rE rJ rO rO (fun v o => ?_) | (apply exlCopy; first | refine st_copyW _ rJ rE rK rE rD rJ rE rJ (fun zs hzs => ?_) | refine st_copyS _ rJ rJ rK rE rD rJ rE rJ rO rO (fun zs hzs => ?_)) | refine st_sliceB rJ rJ rJ rJ rJ rJ rJ rL rE rE rJ (fun g => ?_) | refine st_slice1I rJ rJ rJ rJ rJ rJ (fun g => ?_) | refine st_slice1B rJ rJ rJ rJ rJ rJ rO rO (fun g => ?_) | refine st_slice1S rJ rJ rJ rJ rJ rJ (fun g => ?_) | refine st_slice2B rJ rJ rJ rJ rJ rJ rJ rO rO rO rO (fun g => ?_) | (apply exlConv; first | refine st_bytes rJ rJ rJ rJ rJ rO (fun v o => ?_) | refine st_mark _ rJ rJ rK rJ rJ rJ ?_) | refine st_clear _ (0 : UInt8) rJ rK rJ rJ rJ rJ rJ rO ?_ | refine st_clearT _ rJ rK rO rJ rJ rO rE ?_ | (apply exlAppend; first | refine st_app0 rJ rJ rE rD rJ rE rJ rE rJ rJ rJ rO (fun v o => ?_) | refine st_app _ rJ rE rK rE rD rJ rE rJ rE rJ rJ rJ rO (fun v o => ?_) | refine st_shift _ rJ rJ rJ rK rO rJ rJ rJ rO rO rE ?_)) | (refine Ex.cond_d rJ (fun h => ?_) (fun h => ?_) <;> try (exfalso; omega))))
  refine st_callIs [] rJ Try.call19 rE rJ (post_FetchA g0 1 s16b 1 ⟨0, 0, 0, 0, 0⟩ _ s16_okB) ?_
  rw [s16_fetch]
  rintro _ _ ⟨u, ou, rfl, rfl⟩
  (repeat' (first | refine ExL.val rJ rJ rJ rV ?_ | (first | refine Ex.seq ?_ | refine Ex.region ?_ | refine ExL.nil ?_ | refine thn_n ?_ | refine Ex.cond_t rJ ?_ | refine Ex.cond_f rJ ?_ | refine Ex.skip ?_ | refine Ex.block ?_ | refine Ex.exit ?_ | refine Ex.ret ?_ | refine thn_exit ?_ | refine thn_ret ?_ | refine inb_n ?_ | refine inb_hit rJ ?_ | refine inb_miss rJ ?_ | refine inb_ret ?_ | refine rnd_exit ?_ | refine rnd_ret ?_ | refine meet_ret ?_ | refine meet_exit ?_) | (apply exlGuard; first | refine ExL.gskip rJ rJ rJ rJ rJ rJ ?_ | refine ExL.gtake rJ rJ rJ rJ ?_ | refine ExL.gskipU rJ rJ rJ rJ ?_ | (refine ExL.gsplit rJ rJ rJ (fun h => ?_) (fun h => ?_) <;> try (exfalso; omega))) | (first | refine st_new_ rJ rE (fun g => ?_) | refine st_boxA rJ rJ (fun g => ?_) | refine st_box1 rJ rE rN (fun g => ?_) | (apply exlStore; first | refine st_store1_ _ rJ rK rE rN rJ rJ rE rE ?_ | refine st_storeW_ _ rJ rK rJ rC rJ rJ rJ rE ?_ | refine st_storeR _ rJ rK rJ rE rJ rJ rE ?_ | refine st_storeA_ _ rJ rK rJ rC rJ rJ rJ rE rE ?_ | refine st_storeB _ rJ rJ rO rO rK rJ rO ?_ | refine st_storeG _ rJ rK rE rN rJ rO (fun cs hcs => ?_)) | refine st_slice0 rJ rJ rJ rJ (fun g => ?_) | refine st_slice1T rJ rJ rJ rJ (fun g => ?_) | refine st_makeT rJ rJ rJ rJ rE rJ rO rO (fun v o => ?_) | (apply exlCopy; first | refine st_copyW _ rJ rE rK rE rD rJ rE rJ (fun zs hzs => ?_) | refine st_copyS _ rJ rJ rK rE rD rJ rE rJ rO rO (fun zs hzs => ?_)) | refine st_sliceB rJ rJ rJ rJ rJ rJ rJ rL rE rE rJ (fun g => ?_) | refine st_slice1I rJ rJ rJ rJ rJ rJ (fun g => ?_) | refine st_slice1B rJ rJ rJ rJ rJ rJ rO rO (fun g => ?_) | refine st_slice1S rJ rJ rJ rJ rJ rJ (fun g => ?_) | refine st_slice2B rJ rJ rJ rJ rJ rJ rJ rO rO rO rO (fun g => ?_) | (apply exlConv; first | refine st_bytes rJ rJ rJ rJ rJ rO (fun v o => ?_) | refine st_mark _ rJ rJ rK rJ rJ rJ ?_) | refine st_clear _ (0 : UInt8) rJ rK rJ rJ rJ rJ rJ rO ?_ | refine st_clearT _ rJ rK rO rJ rJ rO rE ?_ | (apply exlAppend; first | refine st_app0 rJ rJ rE rD rJ rE rJ rE rJ rJ rJ rO (fun v o => ?_) | refine st_app _ rJ rE rK rE rD rJ rE rJ rE rJ rJ rJ rO (fun v o => ?_) | refine st_shift _ rJ rJ rJ rK rO rJ rJ rJ rO rO rE ?_)) | (refine Ex.cond_d rJ (fun h => ?_) (fun h => ?_) <;> try (exfalso; omega))))
  refine st_callIs [1] rJ Try.call17 rE rJ (post_AckA g0 1 s16b 1 ⟨1, 0, 0, 0, 0⟩ _ s16_okB) ?_
  rw [s16_ack1]
  rintro _ _ ⟨rfl, rfl⟩
  (repeat' (first | refine ExL.val rJ rJ rJ rV ?_ | (first | refine Ex.seq ?_ | refine Ex.region ?_ | refine ExL.nil ?_ | refine thn_n ?_ | refine Ex.cond_t rJ ?_ | refine Ex.cond_f rJ ?_ | refine Ex.skip ?_ | refine Ex.block ?_ | refine Ex.exit ?_ | refine Ex.ret ?_ | refine thn_exit ?_ | refine thn_ret ?_ | refine inb_n ?_ | refine inb_hit rJ ?_ | refine inb_miss rJ ?_ | refine inb_ret ?_ | refine rnd_exit ?_ | refine rnd_ret ?_ | refine meet_ret ?_ | refine meet_exit ?_) | (apply exlGuard; first | refine ExL.gskip rJ rJ rJ rJ rJ rJ ?_ | refine ExL.gtake rJ rJ rJ rJ ?_ | refine ExL.gskipU rJ rJ rJ rJ ?_ | (refine ExL.gsplit rJ rJ rJ (fun h => ?_) (fun h => ?_) <;> try (exfalso; omega))) | (first | refine st_new_ rJ rE (fun g => ?_) | refine st_boxA rJ rJ (fun g => ?_) | refine st_box1 rJ rE rN (fun g => ?_) | (apply exlStore; first | refine st_store1_ _ rJ rK rE rN rJ rJ rE rE ?_ | refine st_storeW_ _ rJ rK rJ rC rJ rJ rJ rE ?_ | refine st_storeR _ rJ rK rJ rE rJ rJ rE ?_ | refine st_storeA_ _ rJ rK rJ rC rJ rJ rJ rE rE ?_ | refine st_storeB _ rJ rJ rO rO rK rJ rO ?_ | refine st_storeG _ rJ rK rE rN rJ rO (fun cs hcs => ?_)) | refine st_slice0 rJ rJ rJ rJ (fun g => ?_) | refine st_slice1T rJ rJ rJ rJ (fun g => ?_) | refine st_makeT rJ rJ rJ rJ rE rJ rO rO (fun v o => ?_) | (apply exlCopy; first | refine st_copyW _ rJ rE rK rE rD rJ rE rJ (fun zs hzs => ?_) | refine st_copyS _ rJ rJ rK rE rD rJ rE rJ rO rO (fun zs hzs => ?_)) | refine st_sliceB rJ rJ rJ rJ rJ rJ rJ rL rE rE rJ (fun g => ?_) | refine st_slice1I rJ rJ rJ rJ rJ rJ (fun g => ?_) | refine st_slice1B rJ rJ rJ rJ rJ rJ rO rO (fun g => ?_) | refine st_slice1S rJ rJ rJ rJ rJ rJ (fun g => ?_) | refine st_slice2B rJ rJ rJ rJ rJ rJ rJ rO rO rO rO (fun g => ?_) | (apply exlConv; first | refine st_bytes rJ rJ rJ rJ rJ rO (fun v o => ?_) | refine st_mark _ rJ rJ rK rJ rJ rJ ?_) | refine st_clear _ (0 : UInt8) rJ rK rJ rJ rJ rJ rJ rO ?_ | refine st_clearT _ rJ rK rO rJ rJ rO rE ?_ | (apply exlAppend; first | refine st_app0 rJ rJ rE rD rJ rE rJ rE rJ rJ rJ rO (fun v o => ?_) | refine st_app _ rJ rE rK rE rD rJ rE rJ rE rJ rJ rJ rO (fun v o => ?_) | refine st_shift _ rJ rJ rJ rK rO rJ rJ rJ rO rO rE ?_)) | (refine Ex.cond_d rJ (fun h => ?_) (fun h => ?_) <;> try (exfalso; omega))))
  refine st_callIs [] rJ Try.call13 rE rJ (post_SiteA g0 1 s16c _ s16_okC) ?_
  rintro _ _ ⟨rfl, rfl⟩
  (repeat' (first | refine ExL.val rJ rJ rJ rV ?_ | (first | refine Ex.seq ?_ | refine Ex.region ?_ | refine ExL.nil ?_ | refine thn_n ?_ | refine Ex.cond_t rJ ?_ | refine Ex.cond_f rJ ?_ | refine Ex.skip ?_ | refine Ex.block ?_ | refine Ex.exit ?_ | refine Ex.ret ?_ | refine thn_exit ?_ | refine thn_ret ?_ | refine inb_n ?_ | refine inb_hit rJ ?_ | refine inb_miss rJ ?_ | refine inb_ret ?_ | refine rnd_exit ?_ | refine rnd_ret ?_ | refine meet_ret ?_ | refine meet_exit ?_) | (apply exlGuard; first | refine ExL.gskip rJ rJ rJ rJ rJ rJ ?_ | refine ExL.gtake rJ rJ rJ rJ ?_ | refine ExL.gskipU rJ rJ rJ rJ ?_ | (refine ExL.gsplit rJ rJ rJ (fun h => ?_) (fun h => ?_) <;> try (exfalso; omega))) | (first | refine st_new_ rJ rE (fun g => ?_) | refine st_boxA rJ rJ (fun g => ?_) | refine st_box1 rJ rE rN (fun g => ?_) | (apply exlStore; first | refine st_store1_ _ rJ rK rE rN rJ rJ rE rE ?_ | refine st_storeW_ _ rJ rK rJ rC rJ rJ rJ rE ?_ | refine st_storeR _ rJ rK rJ rE rJ rJ rE ?_ | refine st_storeA_ _ rJ rK rJ rC rJ rJ rJ rE rE ?_ | refine st_storeB _ rJ rJ rO rO rK rJ rO ?_ | refine st_storeG _ rJ rK rE rN rJ rO (fun cs hcs => ?_)) | refine st_slice0 rJ rJ rJ rJ (fun g => ?_) | refine st_slice1T rJ rJ rJ rJ (fun g => ?_) | refine st_makeT rJ rJ rJ rJ rE rJ rO rO (fun v o => ?_) | (apply exlCopy; first | refine st_copyW _ rJ rE rK rE rD rJ rE rJ (fun zs hzs => ?_) | refine st_copyS _ rJ rJ rK rE rD rJ rE rJ rO rO (fun zs hzs => ?_)) | refine st_sliceB rJ rJ rJ rJ rJ rJ rJ rL rE rE rJ (fun g => ?_) | refine st_slice1I rJ rJ rJ rJ rJ rJ (fun g => ?_) | refine st_slice1B rJ rJ rJ rJ rJ rJ rO rO (fun g => ?_) | refine st_slice1S rJ rJ rJ rJ rJ rJ (fun g => ?_) | refine st_slice2B rJ rJ rJ rJ rJ rJ rJ rO rO rO rO (fun g => ?_) | (apply exlConv; first | refine st_bytes rJ rJ rJ rJ rJ rO (fun v o => ?_) | refine st_mark _ rJ rJ rK rJ rJ rJ ?_) | refine st_clear _ (0 : UInt8) rJ rK rJ rJ rJ rJ rJ rO ?_ | refine st_clearT _ rJ rK rO rJ rJ rO rE ?_ | (apply exlAppend; first | refine st_app0 rJ rJ rE rD rJ rE rJ rE rJ rJ rJ rO (fun v o => ?_) | refine st_app _ rJ rE rK rE rD rJ rE rJ rE rJ rJ rJ rO (fun v o => ?_) | refine st_shift _ rJ rJ rJ rK rO rJ rJ rJ rO rO rE ?_)) | (refine Ex.cond_d rJ (fun h => ?_) (fun h => ?_) <;> try (exfalso; omega))))
  refine st_callIs [1] rJ Try.call17 rE rJ (post_AckA g0 1 s16c 0 ⟨1, 0, 0, 0, 0⟩ _ s16_okC) ?_
  rw [s16_ack2]
  rintro _ _ ⟨rfl, rfl⟩
  (repeat' (first | refine ExL.val rJ rJ rJ rV ?_ | (first | refine Ex.seq ?_ | refine Ex.region ?_ | refine ExL.nil ?_ | refine thn_n ?_ | refine Ex.cond_t rJ ?_ | refine Ex.cond_f rJ ?_ | refine Ex.skip ?_ | refine Ex.block ?_ | refine Ex.exit ?_ | refine Ex.ret ?_ | refine thn_exit ?_ | refine thn_ret ?_ | refine inb_n ?_ | refine inb_hit rJ ?_ | refine inb_miss rJ ?_ | refine inb_ret ?_ | refine rnd_exit ?_ | refine rnd_ret ?_ | refine meet_ret ?_ | refine meet_exit ?_) | (apply exlGuard; first | refine ExL.gskip rJ rJ rJ rJ rJ rJ ?_ | refine ExL.gtake rJ rJ rJ rJ ?_ | refine ExL.gskipU rJ rJ rJ rJ ?_ | (refine ExL.gsplit rJ rJ rJ (fun h => ?_) (fun h => ?_) <;> try (exfalso; omega))) | (first | refine st_new_ rJ rE (fun g => ?_) | refine st_boxA rJ rJ (fun g => ?_) | refine st_box1 rJ rE rN (fun g => ?_) | (apply exlStore; first | refine st_store1_ _ rJ rK rE rN rJ rJ rE rE ?_ | refine st_storeW_ _ rJ rK rJ rC rJ rJ rJ rE ?_ | refine st_storeR _ rJ rK rJ rE rJ rJ rE ?_ | refine st_storeA_ _ rJ rK rJ rC rJ rJ rJ rE rE ?_ | refine st_storeB _ rJ rJ rO rO rK rJ rO ?_ | refine st_storeG _ rJ rK rE rN rJ rO (fun cs hcs => ?_)) | refine st_slice0 rJ rJ rJ rJ (fun g => ?_) | refine st_slice1T rJ rJ rJ rJ (fun g => ?_) | refine st_makeT rJ rJ rJ rJ rE rJ rO rO (fun v o => ?_) | (apply exlCopy; first | refine st_copyW _ rJ rE rK rE rD rJ rE rJ (fun zs hzs => ?_) | refine st_copyS _ rJ rJ rK rE rD rJ rE rJ rO rO (fun zs hzs => ?_)) | refine st_sliceB rJ rJ rJ rJ rJ rJ rJ rL rE rE rJ (fun g => ?_) | refine st_slice1I rJ rJ rJ rJ rJ rJ (fun g => ?_) | refine st_slice1B rJ rJ rJ rJ rJ rJ rO rO (fun g => ?_) | refine st_slice1S rJ rJ rJ rJ rJ rJ (fun g => ?_) | refine st_slice2B rJ rJ rJ rJ rJ rJ rJ rO rO rO rO (fun g => ?_) | (apply exlConv; first | refine st_bytes rJ rJ rJ rJ rJ rO (fun v o => ?_) | refine st_mark _ rJ rJ rK rJ rJ rJ ?_) | refine st_clear _ (0 : UInt8) rJ rK rJ rJ rJ rJ rJ rO ?_ | refine st_clearT _ rJ rK rO rJ rJ rO rE ?_ | (apply exlAppend; first | refine st_app0 rJ rJ rE rD rJ rE rJ rE rJ rJ rJ rO (fun v o => ?_) | refine st_app _ rJ rE rK rE rD rJ rE rJ rE rJ rJ rJ rO (fun v o => ?_) | refine st_shift _ rJ rJ rJ rK rO rJ rJ rJ rO rO rE ?_)) | (refine Ex.cond_d rJ (fun h => ?_) (fun h => ?_) <;> try (exfalso; omega))))
  (refine Ex.mixA 43 _ rfl (by kernel_rfl) rF ?_; (repeat' (first | refine mx_val rJ rJ rJ rV ?_ | refine mx_nil ?_ | (first | refine mx_gskip rJ rJ rJ rJ ?_ | refine mx_gtake rJ rJ rJ ?_ | refine mx_gskipU rJ rJ rJ ?_) | (first | refine mx_slice1T rJ rJ rJ rJ (fun g => ?_) | refine mx_slice1I rJ rJ rJ rJ rJ rJ (fun g => ?_) | refine mx_slice1B rJ rJ rJ rJ rJ rJ rO rO (fun g => ?_) | refine mx_slice1S rJ rJ rJ rJ rJ rJ (fun g => ?_) | refine mx_slice2B rJ rJ rJ rJ rJ rJ rJ rO rO rO rO (fun g => ?_) | refine mx_alloc rJ rE (fun g => ?_) | refine mx_boxA rJ rJ (fun g => ?_) | refine mx_slice0 rJ rJ rJ rJ (fun g => ?_)) | (refine mx_gsplit rJ rJ rJ (fun h => ?_) (fun h => ?_) <;> try (exfalso; omega)) | (refine mx_act rJ rJ rJ ?_; (first | (apply exlCopy; first | refine st_copyW _ rJ rE rK rE rD rJ rE rJ (fun zs hzs => ?_) | refine st_copyS _ rJ rJ rK rE rD rJ rE rJ rO rO (fun zs hzs => ?_)) | (apply exlAppend; first | refine st_app0 rJ rJ rE rD rJ rE rJ rE rJ rJ rJ rO (fun v o => ?_) | refine st_app _ rJ rE rK rE rD rJ rE rJ rE rJ rJ rJ rO (fun v o => ?_) | refine st_shift _ rJ rJ rJ rK rO rJ rJ rJ rO rO rE ?_)); refine ExL.nil ?_; refine mxEnd_n rF ?_))))
  refine mx_val rJ rJ rJ (vl_eqlT_t (a := x16) (b := x16) rJ rJ rJ) ?_
  (repeat' (first | refine mx_val rJ rJ rJ rV ?_ | refine mx_nil ?_ | (first | refine mx_gskip rJ rJ rJ rJ ?_ | refine mx_gtake rJ rJ rJ ?_ | refine mx_gskipU rJ rJ rJ ?_) | (first | refine mx_slice1T rJ rJ rJ rJ (fun g => ?_) | refine mx_slice1I rJ rJ rJ rJ rJ rJ (fun g => ?_) | refine mx_slice1B rJ rJ rJ rJ rJ rJ rO rO (fun g => ?_) | refine mx_slice1S rJ rJ rJ rJ rJ rJ (fun g => ?_) | refine mx_slice2B rJ rJ rJ rJ rJ rJ rJ rO rO rO rO (fun g => ?_) | refine mx_alloc rJ rE (fun g => ?_) | refine mx_boxA rJ rJ (fun g => ?_) | refine mx_slice0 rJ rJ rJ rJ (fun g => ?_)) | (refine mx_gsplit rJ rJ rJ (fun h => ?_) (fun h => ?_) <;> try (exfalso; omega)) | (refine mx_act rJ rJ rJ ?_; (first | (apply exlCopy; first | refine st_copyW _ rJ rE rK rE rD rJ rE rJ (fun zs hzs => ?_) | refine st_copyS _ rJ rJ rK rE rD rJ rE rJ rO rO (fun zs hzs => ?_)) | (apply exlAppend; first | refine st_app0 rJ rJ rE rD rJ rE rJ rE rJ rJ rJ rO (fun v o => ?_) | refine st_app _ rJ rE rK rE rD rJ rE rJ rE rJ rJ rJ rO (fun v o => ?_) | refine st_shift _ rJ rJ rJ rK rO rJ rJ rJ rO rO rE ?_)); refine ExL.nil ?_; refine mxEnd_n rF ?_)))
  (refine mx_act rJ rJ rJ ?_; refine st_callIs [] rJ Try.call13 rE rJ (post_SiteA g0 1 s16d _ s16_okD) ?_)
  rintro _ _ ⟨rfl, rfl⟩
  refine ExL.nil ?_; refine mxEnd_n rF ?_
  (first | refine mx_gskip rJ rJ rJ rJ ?_ | refine mx_gtake rJ rJ rJ ?_ | refine mx_gskipU rJ rJ rJ ?_)
  refine mx_val rJ rJ rJ (vl_fieldV rJ rJ rJ rJ rJ rJ rE) ?_
  (first | refine mx_gskip rJ rJ rJ rJ ?_ | refine mx_gtake rJ rJ rJ ?_ | refine mx_gskipU rJ rJ rJ ?_)
  refine mx_val rJ rJ rJ (vl_index1V (j := 0) rJ rJ rJ rJ rJ rJ rE) ?_
  (repeat' (first | refine mx_val rJ rJ rJ rV ?_ | refine mx_nil ?_ | (first | refine mx_gskip rJ rJ rJ rJ ?_ | refine mx_gtake rJ rJ rJ ?_ | refine mx_gskipU rJ rJ rJ ?_) | (first | refine mx_slice1T rJ rJ rJ rJ (fun g => ?_) | refine mx_slice1I rJ rJ rJ rJ rJ rJ (fun g => ?_) | refine mx_slice1B rJ rJ rJ rJ rJ rJ rO rO (fun g => ?_) | refine mx_slice1S rJ rJ rJ rJ rJ rJ (fun g => ?_) | refine mx_slice2B rJ rJ rJ rJ rJ rJ rJ rO rO rO rO (fun g => ?_) | refine mx_alloc rJ rE (fun g => ?_) | refine mx_boxA rJ rJ (fun g => ?_) | refine mx_slice0 rJ rJ rJ rJ (fun g => ?_)) | (refine mx_gsplit rJ rJ rJ (fun h => ?_) (fun h => ?_) <;> try (exfalso; omega)) | (refine mx_act rJ rJ rJ ?_; (first | (apply exlCopy; first | refine st_copyW _ rJ rE rK rE rD rJ rE rJ (fun zs hzs => ?_) | refine st_copyS _ rJ rJ rK rE rD rJ rE rJ rO rO (fun zs hzs => ?_)) | (apply exlAppend; first | refine st_app0 rJ rJ rE rD rJ rE rJ rE rJ rJ rJ rO (fun v o => ?_) | refine st_app _ rJ rE rK rE rD rJ rE rJ rE rJ rJ rJ rO (fun v o => ?_) | refine st_shift _ rJ rJ rJ rK rO rJ rJ rJ rO rO rE ?_)); refine ExL.nil ?_; refine mxEnd_n rF ?_)))
  (repeat' (first | refine ExL.val rJ rJ rJ rV ?_ | (first | refine Ex.seq ?_ | refine Ex.region ?_ | refine ExL.nil ?_ | refine thn_n ?_ | refine Ex.cond_t rJ ?_ | refine Ex.cond_f rJ ?_ | refine Ex.skip ?_ | refine Ex.block ?_ | refine Ex.exit ?_ | refine Ex.ret ?_ | refine thn_exit ?_ | refine thn_ret ?_ | refine inb_n ?_ | refine inb_hit rJ ?_ | refine inb_miss rJ ?_ | refine inb_ret ?_ | refine rnd_exit ?_ | refine rnd_ret ?_ | refine meet_ret ?_ | refine meet_exit ?_) | (apply exlGuard; first | refine ExL.gskip rJ rJ rJ rJ rJ rJ ?_ | refine ExL.gtake rJ rJ rJ rJ ?_ | refine ExL.gskipU rJ rJ rJ rJ ?_ | (refine ExL.gsplit rJ rJ rJ (fun h => ?_) (fun h => ?_) <;> try (exfalso; omega))) | (first | refine st_new_ rJ rE (fun g => ?_) | refine st_boxA rJ rJ (fun g => ?_) | refine st_box1 rJ rE rN (fun g => ?_) | (apply exlStore; first | refine st_store1_ _ rJ rK rE rN rJ rJ rE rE ?_ | refine st_storeW_ _ rJ rK rJ rC rJ rJ rJ rE ?_ | refine st_storeR _ rJ rK rJ rE rJ rJ rE ?_ | refine st_storeA_ _ rJ rK rJ rC rJ rJ rJ rE rE ?_ | refine st_storeB _ rJ rJ rO rO rK rJ rO ?_ | refine st_storeG _ rJ rK rE rN rJ rO (fun cs hcs => ?_)) | refine st_slice0 rJ rJ rJ rJ (fun g => ?_) | refine st_slice1T rJ rJ rJ rJ (fun g => ?_) | refine st_makeT rJ rJ rJ rJ rE rJ rO rO (fun v o => ?_) | (apply exlCopy; first | refine st_copyW _ rJ rE rK rE rD rJ rE rJ (fun zs hzs => ?_) | refine st_copyS _ rJ rJ rK rE rD rJ rE rJ rO rO (fun zs hzs => ?_)) | refine st_sliceB rJ rJ rJ rJ rJ rJ rJ rL rE rE rJ (fun g => ?_) | refine st_slice1I rJ rJ rJ rJ rJ rJ (fun g => ?_) | refine st_slice1B rJ rJ rJ rJ rJ rJ rO rO (fun g => ?_) | refine st_slice1S rJ rJ rJ rJ rJ rJ (fun g => ?_) | refine st_slice2B rJ rJ rJ rJ rJ rJ rJ rO rO rO rO (fun g => ?_) | (apply exlConv; first | refine st_bytes rJ rJ rJ rJ rJ rO (fun v o => ?_) | refine st_mark _ rJ rJ rK rJ rJ rJ ?_) | refine st_clear _ (0 : UInt8) rJ rK rJ rJ rJ rJ rJ rO ?_ | refine st_clearT _ rJ rK rO rJ rJ rO rE ?_ | (apply exlAppend; first | refine st_app0 rJ rJ rE rD rJ rE rJ rE rJ rJ rJ rO (fun v o => ?_) | refine st_app _ rJ rE rK rE rD rJ rE rJ rE rJ rJ rJ rO (fun v o => ?_) | refine st_shift _ rJ rJ rJ rK rO rJ rJ rJ rO rO rE ?_)) | (refine Ex.cond_d rJ (fun h => ?_) (fun h => ?_) <;> try (exfalso; omega))))
  (first | refine fin_ret rS ?_ | refine fin_norm rS ?_)
  exact ⟨_, rB, rfl, rfl⟩
end Go.Proofs.Ytkcpgdkchglhhaa
/- A post whose shelves hold rows, in plain words. No condition. -/
namespace Go.Proofs.Ytkcpgdkchglhhaa
open Go.RowKit
set_option linter.unusedSimpArgs false
set_option linter.unusedVariables false
def put1 {α : Type} (f : Nat → α) (r : Nat) (v : α) : Nat → α := fun i => if i = r then v else f i
theorem put1_same {α : Type} (f : Nat → α) (r : Nat) (v : α) : put1 f r v r = v := if_pos rfl
theorem put1_else {α : Type} (f : Nat → α) {r i : Nat} (v : α) (h : i ≠ r) : put1 f r v i = f i := if_neg h
theorem range_set {α : Type} (f : Nat → α) (n r : Nat) (v : α) : ((List.range n).map f).set r v = (List.range n).map (put1 f r v) := by
  apply List.ext_getElem
  · simp
  · intro i h1 h2
    simp only [List.length_set, List.length_map, List.length_range] at h1
    rw [List.getElem_set, List.getElem_map, List.getElem_map, List.getElem_range]
    unfold put1
    by_cases h : i = r
    · rw [if_pos h.symm, if_pos h]
    · rw [if_neg (fun k => h k.symm), if_neg h]
theorem range_getD {α : Type} (f : Nat → α) (n r : Nat) (v : α) (h : r < n) : ((List.range n).map f).getD r v = f r := by
  simp [List.getD_eq_getElem?_getD, h]
theorem range_congr {α : Type} {f g : Nat → α} {n : Nat} (h : ∀ i, i < n → f i = g i) : (List.range n).map f = (List.range n).map g :=
  List.map_congr_left fun i hi => h i (List.mem_range.1 hi)
/-- A post of n replicas: what each told, how many its row has, how many of it were cut. -/
def mkR (n : Nat) (told : Nat → Clk) (len cut : Nat → Nat) : PSt := ⟨(List.range n).map told, (List.range n).map fun (i : Nat) => ⟨rowR i 1 (len i), cut i⟩⟩
theorem mkR_congr {n : Nat} {t t' : Nat → Clk} {l l' c c' : Nat → Nat} (h1 : ∀ i, i < n → t i = t' i) (h2 : ∀ i, i < n → l i = l' i) (h3 : ∀ i, i < n → c i = c' i) : mkR n t l c = mkR n t' l' c' := by
  unfold mkR
  rw [range_congr h1, range_congr (f := fun (i : Nat) => (⟨rowR i 1 (l i), c i⟩ : Sf)) (g := fun (i : Nat) => ⟨rowR i 1 (l' i), c' i⟩) fun i hi => by rw [h2 i hi, h3 i hi]]
def leastF (n : Nat) (told : Nat → Clk) (i : Nat) : Int := leastR ((List.range n).map told) i
theorem foldmin_le : ∀ (l : List Int) (a : Int), l.foldl min a ≤ a ∧ ∀ x ∈ l, l.foldl min a ≤ x
  | [], a => ⟨Int.le_refl _, fun x h => by cases h⟩
  | y :: l, a => by
    obtain ⟨h1, h2⟩ := foldmin_le l (min a y)
    refine ⟨by simp only [List.foldl_cons]; omega, fun x hx => ?_⟩
    simp only [List.foldl_cons]
    rcases List.mem_cons.1 hx with rfl | hx
    · omega
    · exact h2 x hx
theorem foldmin_mem : ∀ (l : List Int) (a : Int), l.foldl min a = a ∨ l.foldl min a ∈ l
  | [], a => .inl rfl
  | y :: l, a => by
    simp only [List.foldl_cons]
    rcases foldmin_mem l (min a y) with h | h
    · rw [h]
      by_cases hm : a ≤ y
      · left; omega
      · right; rw [Int.min_eq_right (by omega)]; exact List.mem_cons_self ..
    · exact .inr (List.mem_cons_of_mem _ h)
theorem leastF_le {n : Nat} {told : Nat → Clk} {i j : Nat} (hj : j < n) : leastF n told i ≤ (told j).get i := by
  unfold leastF leastR
  exact (foldmin_le _ _).2 _ (List.mem_map.2 ⟨told j, List.mem_map.2 ⟨j, List.mem_range.2 hj, rfl⟩, rfl⟩)
theorem leastF_some {n : Nat} {told : Nat → Clk} {i : Nat} (hn : 0 < n) : ∃ j, j < n ∧ leastF n told i = (told j).get i := by
  unfold leastF leastR
  rcases foldmin_mem (((List.range n).map told).map (·.get i)) ((((List.range n).map told).headD Clk.zero).get i) with h | h
  · refine ⟨0, hn, ?_⟩
    rw [h]
    cases n with
    | zero => omega
    | succ n => simp [List.range_succ_eq_map]
  · rw [List.map_map, List.mem_map] at h
    obtain ⟨j, hj, e⟩ := h
    exact ⟨j, List.mem_range.1 hj, by rw [List.map_map]; exact e.symm⟩
/-- The least is m: none is below, one is it. -/
theorem leastF_eq {n : Nat} {told : Nat → Clk} {i : Nat} {m : Int} (h1 : ∀ j, j < n → m ≤ (told j).get i) {j : Nat} (hj : j < n) (h2 : (told j).get i = m) : leastF n told i = m := by
  have h3 := leastF_le (told := told) (i := i) hj
  obtain ⟨k, hk, h4⟩ := leastF_some (told := told) (i := i) (show 0 < n by omega)
  have := h1 k hk
  omega
theorem leastF_congr {n : Nat} {t t' : Nat → Clk} {i : Nat} (h : ∀ j, j < n → t j = t' j) : leastF n t i = leastF n t' i := by unfold leastF; rw [range_congr h]
def cutTo (c : Nat) (m : Int) (l : Nat) : Nat := (max (c : Int) (min m l)).toNat
theorem cutTo_le {c l : Nat} (h : c ≤ l) (m : Int) : c ≤ cutTo c m l ∧ cutTo c m l ≤ l := by unfold cutTo; omega
theorem cutTo_twice (c l : Nat) (m : Int) : cutTo (cutTo c m l) m l = cutTo c m l := by unfold cutTo; omega
theorem mkR_len (n : Nat) (told : Nat → Clk) (len cut : Nat → Nat) : (mkR n told len cut).sf.length = n := by simp [mkR]
theorem mkR_has (n : Nat) (told : Nat → Clk) (len cut : Nat → Nat) (r : Int) : (mkR n told len cut).has r ↔ 0 ≤ r ∧ r < n := by unfold PSt.has; rw [mkR_len]
theorem mkR_get (n : Nat) (told : Nat → Clk) (len cut : Nat → Nat) {i : Nat} (h : i < n) : (mkR n told len cut).sf.getD i Sf.none = ⟨rowR i 1 (len i), cut i⟩ := range_getD _ _ _ _ h
theorem mkR_ok {n : Nat} {told : Nat → Clk} {len cut : Nat → Nat} {B : Nat} (hn : n ≤ 5) (h : ∀ i, i < n → cut i ≤ len i ∧ len i ≤ B) : (mkR n told len cut).Ok B := by
  refine ⟨by rw [mkR_len]; exact hn, by simp [mkR], fun x hx => ?_⟩
  simp only [mkR, List.mem_map, List.mem_range] at hx
  obtain ⟨i, hi, rfl⟩ := hx
  have := h i hi
  exact ⟨by unfold Sf.Ok; simp only [rowR_len]; omega, by simp only [rowR_len]; omega⟩
theorem mkR_ackno (n : Nat) (told : Nat → Clk) (len cut : Nat → Nat) {r : Int} (c : Clk) (h : ¬ (0 ≤ r ∧ r < n)) : (mkR n told len cut).ack r c = (23, mkR n told len cut) := by
  unfold PSt.ack
  rw [if_pos (fun k => h ((mkR_has ..).1 k))]
theorem mkR_pushno (most : Int) (n : Nat) (told : Nat → Clk) (len cut : Nat → Nat) {r : Int} (l : List Ev) (h : ¬ (0 ≤ r ∧ r < n)) : (mkR n told len cut).push most r l = (0, 23, mkR n told len cut) := by
  unfold PSt.push
  rw [if_pos (.inl (fun k => h ((mkR_has ..).1 k)))]
theorem mkR_fetchno (n : Nat) (told : Nat → Clk) (len cut : Nat → Nat) {r : Int} (c : Clk) (h : ¬ (0 ≤ r ∧ r < n)) : (mkR n told len cut).fetch r c = ([], 23) := by
  unfold PSt.fetch
  rw [if_pos (fun k => h ((mkR_has ..).1 k))]
theorem mkR_ack (n : Nat) (told : Nat → Clk) (len cut : Nat → Nat) {r : Nat} (c : Clk) (h : r < n) : (mkR n told len cut).ack r c = (0, mkR n (put1 told r ((told r).join c)) len fun i => cutTo (cut i) (leastF n (put1 told r ((told r).join c)) i) (len i)) := by
  unfold PSt.ack
  rw [if_neg (fun k => k ((mkR_has ..).2 ⟨by omega, by omega⟩)), mkR_len]
  have e1 : (mkR n told len cut).told.getD r Clk.zero = told r := range_getD _ _ _ _ h
  have e2 : (mkR n told len cut).told.set r ((told r).join c) = (List.range n).map (put1 told r ((told r).join c)) := range_set _ _ _ _
  rw [Int.toNat_natCast, e1, e2]
  congr 1
  have h1 := PSt.cutN_told (⟨(List.range n).map (put1 told r ((told r).join c)), (mkR n told len cut).sf⟩ : PSt) n
  have h2 : ((⟨(List.range n).map (put1 told r ((told r).join c)), (mkR n told len cut).sf⟩ : PSt).cutN n).sf = (mkR n (put1 told r ((told r).join c)) len fun i => cutTo (cut i) (leastF n (put1 told r ((told r).join c)) i) (len i)).sf := by
    refine List.ext_getElem (by rw [PSt.cutN_len, mkR_len, mkR_len]) fun i hi1 hi2 => ?_
    rw [PSt.cutN_len] at hi1
    have hi1' : i < (mkR n told len cut).sf.length := hi1
    have hin : i < n := by rwa [mkR_len] at hi1'
    rw [PSt.cutN_get _ _ n i hi1' (by rw [mkR_len]; exact Nat.le_refl _), if_pos hin]
    simp only [mkR, List.getElem_map, List.getElem_range, Sf.to, rowR_len]
    rfl
  cases hc : (⟨(List.range n).map (put1 told r ((told r).join c)), (mkR n told len cut).sf⟩ : PSt).cutN n with
  | mk a b =>
    rw [hc] at h1 h2
    simp only at h1 h2
    rw [h1, h2]
    rfl
theorem mkR_putR {most : Int} {r : Nat} {l c k : Nat} {a : Int} (ha : k = 0 ∨ a ≤ l + 1) (hcl : c ≤ l) {f : Nat} (hf : f = k - ((l : Int) + 1 - a).toNat) (hw : f = 0 ∨ (l : Int) - c + f ≤ most) :
    (⟨rowR r 1 l, c⟩ : Sf).put most (rowR r a k) = (0, ⟨rowR r 1 (l + f), c⟩) := by
  have h1 : fresh (l : Int) (rowR r a k) = rowR r (l + 1) f := by
    rcases ha with rfl | ha
    · have : f = 0 := by omega
      subst this; rfl
    · rw [rowR_fresh _ _ _ _ ha, hf]
  have h2 : putR most ((rowR r 1 l).length : Nat) (((rowR r 1 l).length - c : Nat) : Int) (rowR r a k) = (0, rowR r (l + 1) f) := by
    rw [rowR_len, putR_ok ((rowR_gap _ _ _ _).2 ha), h1]
    rw [h1, rowR_len]
    rcases hw with rfl | hw
    · exact .inl rfl
    · right; omega
  unfold Sf.put
  simp only [h2]
  congr 2
  rw [Int.add_comm (l : Int) 1, rowR_app]
theorem mkR_putF {most : Int} {r : Nat} {l c k : Nat} {a : Int} (ha : a ≤ l + 1) (hcl : c ≤ l) {f : Nat} (hf : f = k - ((l : Int) + 1 - a).toNat) (h0 : 0 < f) (hw : most < (l : Int) - c + f) :
    ((⟨rowR r 1 l, c⟩ : Sf).put most (rowR r a k)).1 = 21 := by
  have h1 : fresh (l : Int) (rowR r a k) = rowR r (l + 1) f := by rw [rowR_fresh _ _ _ _ ha, hf]
  have h2 : putR most ((rowR r 1 l).length : Nat) (((rowR r 1 l).length - c : Nat) : Int) (rowR r a k) = (21, []) := by
    rw [rowR_len]
    refine putR_full ((rowR_gap _ _ _ _).2 (.inr ha)) ?_ ?_
    · rw [h1]; intro h; have := congrArg List.length h; rw [rowR_len] at this; simp at this; omega
    · rw [h1, rowR_len]; omega
  unfold Sf.put
  simp only [h2]
theorem mkR_push {most : Int} (n : Nat) (told : Nat → Clk) (len cut : Nat → Nat) {r k : Nat} {a : Int} (hr : r < n) (ha : k = 0 ∨ a ≤ len r + 1) (hcl : cut r ≤ len r) {f : Nat} (hf : f = k - ((len r : Int) + 1 - a).toNat) (hw : f = 0 ∨ (len r : Int) - cut r + f ≤ most) :
    (mkR n told len cut).push most r (rowR r a k) = (((len r + f : Nat) : Int), 0, mkR n told (put1 len r (len r + f)) (put1 cut r (cutTo (cut r) (leastF n told r) (len r + f)))) := by
  unfold PSt.push
  rw [if_neg (by
    rintro (h | ⟨e, he, h⟩)
    · exact h ((mkR_has ..).2 ⟨by omega, by omega⟩)
    · obtain ⟨i, hi, rfl⟩ := rowR_mem he
      exact h rfl), Int.toNat_natCast, mkR_get _ _ _ _ hr, mkR_putR ha hcl hf hw]
  simp only [ne_eq, not_true_eq_false, ↓reduceIte, rowR_len, PSt.cutAt, List.set_set]
  congr 2
  unfold mkR
  simp only [range_set, PSt.mk.injEq, true_and]
  rw [range_getD _ _ _ _ hr, put1_same]
  refine range_congr fun i hi => ?_
  by_cases h : i = r
  · subst h
    rw [put1_same, put1_same, put1_same]
    simp only [Sf.to, rowR_len]
    rfl
  · rw [put1_else _ _ h, put1_else _ _ h, put1_else _ _ h]
theorem mkR_pushF {most : Int} (n : Nat) (told : Nat → Clk) (len cut : Nat → Nat) {r k : Nat} {a : Int} (hr : r < n) (ha : a ≤ len r + 1) (hcl : cut r ≤ len r) {f : Nat} (hf : f = k - ((len r : Int) + 1 - a).toNat) (h0 : 0 < f) (hw : most < (len r : Int) - cut r + f) :
    (mkR n told len cut).push most r (rowR r a k) = (0, 21, mkR n told len cut) := by
  unfold PSt.push
  have h1 := mkR_putF (r := r) ha hcl hf h0 hw
  rw [if_neg (by
    rintro (h | ⟨e, he, h⟩)
    · exact h ((mkR_has ..).2 ⟨by omega, by omega⟩)
    · obtain ⟨i, hi, rfl⟩ := rowR_mem he
      exact h rfl), Int.toNat_natCast, mkR_get _ _ _ _ hr]
  simp only [h1]
  rfl
theorem above_rowR (c : Int) (r : Int) (a : Int) (m : Nat) : above c (rowR r a m) = rowR r (max a (c + 1)) (m - (c + 1 - a).toNat) := by
  by_cases h : a ≤ c + 1
  · rw [show above c (rowR r a m) = fresh c (rowR r a m) from rfl, rowR_fresh _ _ _ _ h, Int.max_eq_right h]
  · rw [Int.max_eq_left (by omega), show (c + 1 - a).toNat = 0 by omega, Nat.sub_zero]
    unfold above
    rw [List.filter_eq_self]
    intro e he
    obtain ⟨i, hi, rfl⟩ := rowR_mem he
    show decide (c < a + (i : Int)) = true
    rw [decide_eq_true_eq]
    omega
/-- What r gets of the first k rows, who has c. -/
def getR (len cut : Nat → Nat) (r : Int) (c : Clk) (k : Nat) : List Ev := (List.range k).flatMap fun (i : Nat) => if (i : Int) ≠ r then rowR i (max (c.get i) (cut i) + 1) ((len i : Int) - max (c.get i) (cut i)).toNat else []
theorem mkR_getN (n : Nat) (told : Nat → Clk) (len cut : Nat → Nat) (hcl : ∀ i, i < n → cut i ≤ len i) (r : Int) (c : Clk) : ∀ k, k ≤ n → (mkR n told len cut).getN r c k = getR len cut r c k
  | 0, _ => rfl
  | k + 1, hk => by
    have ih := mkR_getN n told len cut hcl r c k (by omega)
    have := hcl k (by omega)
    unfold getR at ih ⊢
    rw [List.range_succ, List.flatMap_append]
    simp only [PSt.getN, List.flatMap_cons, List.flatMap_nil, List.append_nil]
    rw [ih, mkR_get _ _ _ _ (by omega)]
    split
    · congr 1
      simp only
      rw [rowR_drop, above_rowR]
      congr 1 <;> omega
    · simp
theorem mkR_fetch (n : Nat) (told : Nat → Clk) (len cut : Nat → Nat) (hcl : ∀ i, i < n → cut i ≤ len i) {r : Nat} (c : Clk) (h : r < n) : (mkR n told len cut).fetch r c = (getR len cut r c n, 0) := by
  unfold PSt.fetch
  rw [if_neg (fun k => k ((mkR_has ..).2 ⟨by omega, by omega⟩)), mkR_len, mkR_getN n told len cut hcl _ _ _ (Nat.le_refl _)]
theorem mkR_new (n : Nat) : (⟨List.replicate n Clk.zero, List.replicate n Sf.none⟩ : PSt) = mkR n (fun _ => Clk.zero) (fun _ => 0) (fun _ => 0) := by
  unfold mkR
  congr 1
  · apply List.ext_getElem <;> simp
  · apply List.ext_getElem <;> simp [Sf.none, rowR]
theorem mkR_base (n : Nat) (told : Nat → Clk) (len cut : Nat → Nat) (i : Nat) : (mkR n told len cut).baseF i = if i < n then (cut i : Int) else 0 := by
  unfold PSt.baseF
  rw [mkR_len]
  by_cases h : i < n
  · rw [if_pos h, if_pos h, mkR_get _ _ _ _ h]
  · rw [if_neg h, if_neg h]
theorem mkR_lenF (n : Nat) (told : Nat → Clk) (len cut : Nat → Nat) (i : Nat) : (mkR n told len cut).lenF i = if i < n then (len i : Int) else 0 := by
  unfold PSt.lenF
  rw [mkR_len]
  by_cases h : i < n
  · rw [if_pos h, if_pos h, mkR_get _ _ _ _ h, rowR_len]
  · rw [if_neg h, if_neg h]
theorem mkR_told (n : Nat) (told : Nat → Clk) (len cut : Nat → Nat) (i : Nat) : (mkR n told len cut).told.getD i Clk.zero = if i < n then told i else Clk.zero := by
  by_cases h : i < n
  · rw [if_pos h]; exact range_getD _ _ _ _ h
  · rw [if_neg h]; simp [mkR, List.getD_eq_getElem?_getD, h]
end Go.Proofs.Ytkcpgdkchglhhaa
