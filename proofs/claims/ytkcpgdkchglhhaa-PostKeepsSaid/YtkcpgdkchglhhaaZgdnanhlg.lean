/- Several texts, one behind the other; each says in its head what it proves. No condition. -/
import Derived.Test.YtkcpgdkchglhhaaZjaoggajk
import Derived.Test.YtkcpgdkchglhhaaZldjckhlk
/- PostWaits, walked. No condition. -/
namespace Go.Proofs.Ytkcpgdkchglhhaa
open Go.RowKit
set_option linter.unusedSimpArgs false
set_option linter.unusedVariables false
theorem cfg_n {c : Cfg} (h : c.May) : (min (max c.n 0) 5).toNat = c.n.toNat := by have := h.n; omega
theorem post_NewR (c : Cfg) (h : c.May) (M : List Assn) : Fn Try.prog 10 #[.agg (Rep.cells c).toArray] M
    fun v L' => ∃ g : Nat, v = .pointer (some ⟨g, 0, none⟩) ∧ L' = PoA g c.w (mkR c.n.toNat (fun _ => Clk.zero) (fun _ => 0) (fun _ => 0)) :: M := by
  have h1 := post_NewA c M
  rw [cfg_n h, mkR_new] at h1
  exact h1
/-- How a post stands, told: the numbers of what is kept. -/
theorem post_SiteR (g : Nat) (most : Int) (n : Nat) (told : Nat → Clk) (len cut : Nat → Nat) (M : List Assn) (hn : n ≤ 5) (h : ∀ i, i < n → cut i ≤ len i ∧ len i ≤ 1000000) : Fn Try.prog 13 #[.pointer (some ⟨g, 0, none⟩)] (PoA g most (mkR n told len cut) :: M)
    fun v L' => ∃ s : Hs, v = .agg (Rep.cells s).toArray ∧ s = (mkR n told len cut).site ∧ L' = PoA g most (mkR n told len cut) :: M := fun F w0 w r hs =>
  (post_SiteA g most _ M (mkR_ok hn h) F w0 w r hs).mono fun e w' ⟨v, L', h1, h2, h3, h4, h5⟩ => ⟨v, L', h1, h2, h3, _, h4, rfl, h5⟩
theorem site_base (n : Nat) (told : Nat → Clk) (len cut : Nat → Nat) {i : Nat} (hi : i < n) (hn : n ≤ 5) : (mkR n told len cut).site.base.get i = cut i := by
  show (clkOf (mkR n told len cut).baseF).get i = _
  rw [clkOf_get _ _ (by omega), mkR_base, if_pos hi]
theorem site_len (n : Nat) (told : Nat → Clk) (len cut : Nat → Nat) {i : Nat} (hi : i < n) (hn : n ≤ 5) : (mkR n told len cut).site.len.get i = len i := by
  show (clkOf (mkR n told len cut).lenF).get i = _
  rw [clkOf_get _ _ (by omega), mkR_lenF, if_pos hi]
def S16 (n k : Nat) (T : Nat → Clk) (c : Nat) : PSt := mkR n T (put1 (fun _ => 0) 0 k) (put1 (fun _ => 0) 0 c)
theorem S16_fits {n k : Nat} {c : Nat} (hc : c ≤ k) (hk : k ≤ 1000000) : ∀ i, i < n → put1 (fun _ => 0) 0 c i ≤ put1 (fun _ => 0) 0 k i ∧ put1 (fun _ => 0) 0 k i ≤ 1000000 := fun i _ => by
  unfold put1; split
  · exact ⟨hc, hk⟩
  · exact ⟨Nat.le_refl _, Nat.zero_le _⟩
theorem S16_ack {n k : Nat} {T T' : Nat → Clk} {c c' r : Nat} {cl : Clk} (hr : r < n) (hT : ∀ i, i < n → T' i = if i = r then (T r).join cl else T i) (hc : c' = cutTo c (leastF n T' 0) k) : (S16 n k T c).ack r cl = (0, S16 n k T' c') := by
  unfold S16
  rw [mkR_ack _ _ _ _ _ hr]
  have e : ∀ i, i < n → put1 T r ((T r).join cl) i = T' i := fun i hi => (hT i hi).symm
  congr 1
  refine mkR_congr e (fun _ _ => rfl) fun i hi => ?_
  rw [leastF_congr e]
  unfold put1
  by_cases h0 : i = 0
  · subst h0; simp only [↓reduceIte]; exact hc.symm
  · simp only [h0, ↓reduceIte]; unfold cutTo; omega
theorem waits_ack (g : Nat) (most : Int) {n k : Nat} {T : Nat → Clk} (T' : Nat → Clk) {c : Nat} (c' : Nat) {r : Nat} {cl : Clk} (M : List Assn) (hn : n ≤ 5) (hck : c ≤ k) (hk : k ≤ 1000000) (hr : r < n) (hT : ∀ i, i < n → T' i = if i = r then (T r).join cl else T i) (hc : c' = cutTo c (leastF n T' 0) k) :
    Fn Try.prog 17 #[.pointer (some ⟨g, 0, none⟩), .int .i64 r, .agg (Rep.cells cl).toArray] (PoA g most (S16 n k T c) :: M) fun v L' => v = .int .i64 0 ∧ L' = PoA g most (S16 n k T' c') :: M := by
  have h := post_AckA g most (S16 n k T c) r cl M (mkR_ok hn (S16_fits hck hk))
  rw [S16_ack hr hT hc] at h
  exact h
theorem waits_push {most : Int} {n k : Nat} (hn : 0 < n) (hk : (k : Int) ≤ most) : (mkR n (fun _ => Clk.zero) (fun _ => 0) (fun _ => 0)).push most 0 (rowR 0 1 k) = ((k : Int), 0, S16 n k (fun _ => Clk.zero) 0) := by
  have h := mkR_push (most := most) n (fun _ => Clk.zero) (fun _ => 0) (fun _ => 0) (r := 0) (k := k) (a := 1) (f := k) hn (.inr (by simp)) (Nat.le_refl _) (by omega) (.inr (by simpa using hk))
  have hl : leastF n (fun _ => Clk.zero) 0 = 0 := leastF_eq (fun _ _ => Int.le_refl _) hn rfl
  rw [hl] at h
  refine h.trans ?_
  unfold S16 cutTo
  rw [show (max ((0 : Nat) : Int) (min 0 ((0 + k : Nat) : Int))).toNat = 0 by omega, Nat.zero_add]
theorem zero_join (cl : Clk) (h : 0 ≤ cl.a ∧ 0 ≤ cl.b ∧ 0 ≤ cl.c ∧ 0 ≤ cl.d ∧ 0 ≤ cl.e) : Clk.zero.join cl = cl := by
  obtain ⟨a, b, c, d, e⟩ := cl
  simp only [Clk.join, Clk.zero, Clk.mk.injEq] at *
  omega
theorem waits_pushF (g : Nat) (most : Int) {n k : Nat} (u : Value) (M : List Assn) (hn : 0 < n) (hn5 : n ≤ 5) (hk : (k : Int) ≤ most) (hk6 : k ≤ 1000000) (hu : RdT M u (rowR 0 1 k)) :
    Fn Try.prog 15 #[.pointer (some ⟨g, 0, none⟩), .int .i64 0, u] (PoA g most (mkR n (fun _ => Clk.zero) (fun _ => 0) (fun _ => 0)) :: M) fun v L' => v = .tuple #[.int .i64 k, .int .i64 0] ∧ L' = PoA g most (S16 n k (fun _ => Clk.zero) 0) :: M := by
  have h := post_PushA g most (mkR n (fun _ => Clk.zero) (fun _ => 0) (fun _ => 0)) 0 u (rowR 0 1 k) M (mkR_ok hn5 fun _ _ => ⟨Nat.le_refl _, Nat.zero_le _⟩) hu (by rw [rowR_len]; exact hk6) (fun e he => by
    obtain ⟨i, hi, rfl⟩ := rowR_mem he
    unfold I64 evR
    simp only
    omega)
  rw [waits_push hn hk] at h
  exact h
theorem waits_site (g : Nat) (most : Int) {n k : Nat} {T : Nat → Clk} {c : Nat} (M : List Assn) (hn0 : 0 < n) (hn : n ≤ 5) (hck : c ≤ k) (hk : k ≤ 1000000) :
    Fn Try.prog 13 #[.pointer (some ⟨g, 0, none⟩)] (PoA g most (S16 n k T c) :: M) fun v L' => ∃ s : Hs, v = .agg (Rep.cells s).toArray ∧ s.base.a = c ∧ s.len.a = k ∧ L' = PoA g most (S16 n k T c) :: M := by
  refine (post_SiteR g most n T (put1 (fun _ => 0) 0 k) (put1 (fun _ => 0) 0 c) M hn (S16_fits hck hk)).res ?_
  rintro v L' ⟨s, rfl, rfl, rfl⟩
  exact ⟨_, Sub.refl _, _, rfl, site_base (i := 0) n T _ _ hn0 hn, site_len (i := 0) n T _ _ hn0 hn, rfl⟩
def K5 (k : Nat) : Clk := ⟨(k : Int) + 5, 9, 9, 9, 9⟩
set_option maxRecDepth 20000 attribute [local irreducible] Ex ExL Fn thn inb rnd fin meet Tab Mix mxEnd Val Sats RdT Rd RowT Row Blk Sub Fac ResV RVal Evs subs subs3 Hid Capd
attribute [local irreducible] PoA S16 rowR
set_option maxHeartbeats 4000000 in
theorem postWaits_fn (c : Cfg) (who many : Int) (W : World) (hw : 0 ≤ who ∧ who ≤ 255) (hm : 0 ≤ many ∧ many ≤ 255) :
    Fn Try.prog 7 #[.agg (Rep.cells c).toArray, .int .u8 who, .int .u8 many] [Base W] fun v L' => v = .bool true ∧ L' = [Base W] := by
  have hM := fitC_may c
  refine Fn.of_ex Try.func7 rfl Try.ntmps7 rfl ?_
  (repeat' (first | refine ExL.val rJ rJ rJ rV ?_ | (first | refine Ex.seq ?_ | refine Ex.region ?_ | refine ExL.nil ?_ | refine thn_n ?_ | refine Ex.cond_t rJ ?_ | refine Ex.cond_f rJ ?_ | refine Ex.skip ?_ | refine Ex.block ?_ | refine Ex.exit ?_ | refine Ex.ret ?_ | refine thn_exit ?_ | refine thn_ret ?_ | refine inb_n ?_ | refine inb_hit rJ ?_ | refine inb_miss rJ ?_ | refine inb_ret ?_ | refine rnd_exit ?_ | refine rnd_ret ?_ | refine meet_ret ?_ | refine meet_exit ?_) | (apply exlGuard; first | refine ExL.gskip rJ rJ rJ rJ rJ rJ ?_ | refine ExL.gtake rJ rJ rJ rJ ?_ | refine ExL.gskipU rJ rJ rJ rJ ?_ | (refine ExL.gsplit rJ rJ rJ (fun h => ?_) (fun h => ?_) <;> try (exfalso; omega))) | (first | refine st_new_ rJ rE (fun g => ?_) | refine st_boxA rJ rJ (fun g => ?_) | refine st_box1 rJ rE rN (fun g => ?_) | (apply exlStore; first | refine st_store1_ _ rJ rK rE rN rJ rJ rE rE ?_ | refine st_storeW_ _ rJ rK rJ rC rJ rJ rJ rE ?_ | refine st_storeR _ rJ rK rJ rE rJ rJ rE ?_ | refine st_storeA_ _ rJ rK rJ rC rJ rJ rJ rE rE ?_ | refine st_storeB _ rJ rJ rO rO rK rJ rO ?_ | refine st_storeG _ rJ rK rE rN rJ rO (fun cs hcs => ?_)) | refine st_slice0 rJ rJ rJ rJ (fun g => ?_) | refine st_slice1T rJ rJ rJ rJ (fun g => ?_) | refine st_makeT rJ rJ rJ rJ rE rJ rO rO (fun v o => ?_) | (apply exlCopy; first | refine st_copyW _ rJ rE rK rE rD rJ rE rJ (fun zs hzs => ?_) | refine st_copyS _ rJ rJ rK rE rD rJ rE rJ rO rO (fun zs hzs => ?_)) | refine st_sliceB rJ rJ rJ rJ rJ rJ rJ rL rE rE rJ (fun g => ?_) | refine st_slice1I rJ rJ rJ rJ rJ rJ (fun g => ?_) | refine st_slice1B rJ rJ rJ rJ rJ rJ rO rO (fun g => ?_) | refine st_slice1S rJ rJ rJ rJ rJ rJ (fun g => ?_) | refine st_slice2B rJ rJ rJ rJ rJ rJ rJ rO rO rO rO (fun g => ?_) | (apply exlConv; first | refine st_bytes rJ rJ rJ rJ rJ rO (fun v o => ?_) | refine st_mark _ rJ rJ rK rJ rJ rJ ?_) | refine st_clear _ (0 : UInt8) rJ rK rJ rJ rJ rJ rJ rO ?_ | refine st_clearT _ rJ rK rO rJ rJ rO rE ?_ | (apply exlAppend; first | refine st_app0 rJ rJ rE rD rJ rE rJ rE rJ rJ rJ rO (fun v o => ?_) | refine st_app _ rJ rE rK rE rD rJ rE rJ rE rJ rJ rJ rO (fun v o => ?_) | refine st_shift _ rJ rJ rJ rK rO rJ rJ rJ rO rO rE ?_)) | (refine Ex.cond_d rJ (fun h => ?_) (fun h => ?_) <;> try (exfalso; omega))))
  (refine st_callIs [] rJ Try.call8 rJ rJ (shown16_fn _) ?_; rintro _ _ ⟨rfl, rfl⟩)
  (repeat' (first | refine ExL.val rJ rJ rJ rV ?_ | (first | refine Ex.seq ?_ | refine Ex.region ?_ | refine ExL.nil ?_ | refine thn_n ?_ | refine Ex.cond_t rJ ?_ | refine Ex.cond_f rJ ?_ | refine Ex.skip ?_ | refine Ex.block ?_ | refine Ex.exit ?_ | refine Ex.ret ?_ | refine thn_exit ?_ | refine thn_ret ?_ | refine inb_n ?_ | refine inb_hit rJ ?_ | refine inb_miss rJ ?_ | refine inb_ret ?_ | refine rnd_exit ?_ | refine rnd_ret ?_ | refine meet_ret ?_ | refine meet_exit ?_) | (apply exlGuard; first | refine ExL.gskip rJ rJ rJ rJ rJ rJ ?_ | refine ExL.gtake rJ rJ rJ rJ ?_ | refine ExL.gskipU rJ rJ rJ rJ ?_ | (refine ExL.gsplit rJ rJ rJ (fun h => ?_) (fun h => ?_) <;> try (exfalso; omega))) | (first | refine st_new_ rJ rE (fun g => ?_) | refine st_boxA rJ rJ (fun g => ?_) | refine st_box1 rJ rE rN (fun g => ?_) | (apply exlStore; first | refine st_store1_ _ rJ rK rE rN rJ rJ rE rE ?_ | refine st_storeW_ _ rJ rK rJ rC rJ rJ rJ rE ?_ | refine st_storeR _ rJ rK rJ rE rJ rJ rE ?_ | refine st_storeA_ _ rJ rK rJ rC rJ rJ rJ rE rE ?_ | refine st_storeB _ rJ rJ rO rO rK rJ rO ?_ | refine st_storeG _ rJ rK rE rN rJ rO (fun cs hcs => ?_)) | refine st_slice0 rJ rJ rJ rJ (fun g => ?_) | refine st_slice1T rJ rJ rJ rJ (fun g => ?_) | refine st_makeT rJ rJ rJ rJ rE rJ rO rO (fun v o => ?_) | (apply exlCopy; first | refine st_copyW _ rJ rE rK rE rD rJ rE rJ (fun zs hzs => ?_) | refine st_copyS _ rJ rJ rK rE rD rJ rE rJ rO rO (fun zs hzs => ?_)) | refine st_sliceB rJ rJ rJ rJ rJ rJ rJ rL rE rE rJ (fun g => ?_) | refine st_slice1I rJ rJ rJ rJ rJ rJ (fun g => ?_) | refine st_slice1B rJ rJ rJ rJ rJ rJ rO rO (fun g => ?_) | refine st_slice1S rJ rJ rJ rJ rJ rJ (fun g => ?_) | refine st_slice2B rJ rJ rJ rJ rJ rJ rJ rO rO rO rO (fun g => ?_) | (apply exlConv; first | refine st_bytes rJ rJ rJ rJ rJ rO (fun v o => ?_) | refine st_mark _ rJ rJ rK rJ rJ rJ ?_) | refine st_clear _ (0 : UInt8) rJ rK rJ rJ rJ rJ rJ rO ?_ | refine st_clearT _ rJ rK rO rJ rJ rO rE ?_ | (apply exlAppend; first | refine st_app0 rJ rJ rE rD rJ rE rJ rE rJ rJ rJ rO (fun v o => ?_) | refine st_app _ rJ rE rK rE rD rJ rE rJ rE rJ rJ rJ rO (fun v o => ?_) | refine st_shift _ rJ rJ rJ rK rO rJ rJ rJ rO rO rE ?_)) | (refine Ex.cond_d rJ (fun h => ?_) (fun h => ?_) <;> try (exfalso; omega))))
  (refine st_callIs [] rJ Try.call9 rJ rJ (fitC_F c _) ?_; rintro _ _ ⟨rfl, rfl⟩)
  (repeat' (first | refine ExL.val rJ rJ rJ rV ?_ | (first | refine Ex.seq ?_ | refine Ex.region ?_ | refine ExL.nil ?_ | refine thn_n ?_ | refine Ex.cond_t rJ ?_ | refine Ex.cond_f rJ ?_ | refine Ex.skip ?_ | refine Ex.block ?_ | refine Ex.exit ?_ | refine Ex.ret ?_ | refine thn_exit ?_ | refine thn_ret ?_ | refine inb_n ?_ | refine inb_hit rJ ?_ | refine inb_miss rJ ?_ | refine inb_ret ?_ | refine rnd_exit ?_ | refine rnd_ret ?_ | refine meet_ret ?_ | refine meet_exit ?_) | (apply exlGuard; first | refine ExL.gskip rJ rJ rJ rJ rJ rJ ?_ | refine ExL.gtake rJ rJ rJ rJ ?_ | refine ExL.gskipU rJ rJ rJ rJ ?_ | (refine ExL.gsplit rJ rJ rJ (fun h => ?_) (fun h => ?_) <;> try (exfalso; omega))) | (first | refine st_new_ rJ rE (fun g => ?_) | refine st_boxA rJ rJ (fun g => ?_) | refine st_box1 rJ rE rN (fun g => ?_) | (apply exlStore; first | refine st_store1_ _ rJ rK rE rN rJ rJ rE rE ?_ | refine st_storeW_ _ rJ rK rJ rC rJ rJ rJ rE ?_ | refine st_storeR _ rJ rK rJ rE rJ rJ rE ?_ | refine st_storeA_ _ rJ rK rJ rC rJ rJ rJ rE rE ?_ | refine st_storeB _ rJ rJ rO rO rK rJ rO ?_ | refine st_storeG _ rJ rK rE rN rJ rO (fun cs hcs => ?_)) | refine st_slice0 rJ rJ rJ rJ (fun g => ?_) | refine st_slice1T rJ rJ rJ rJ (fun g => ?_) | refine st_makeT rJ rJ rJ rJ rE rJ rO rO (fun v o => ?_) | (apply exlCopy; first | refine st_copyW _ rJ rE rK rE rD rJ rE rJ (fun zs hzs => ?_) | refine st_copyS _ rJ rJ rK rE rD rJ rE rJ rO rO (fun zs hzs => ?_)) | refine st_sliceB rJ rJ rJ rJ rJ rJ rJ rL rE rE rJ (fun g => ?_) | refine st_slice1I rJ rJ rJ rJ rJ rJ (fun g => ?_) | refine st_slice1B rJ rJ rJ rJ rJ rJ rO rO (fun g => ?_) | refine st_slice1S rJ rJ rJ rJ rJ rJ (fun g => ?_) | refine st_slice2B rJ rJ rJ rJ rJ rJ rJ rO rO rO rO (fun g => ?_) | (apply exlConv; first | refine st_bytes rJ rJ rJ rJ rJ rO (fun v o => ?_) | refine st_mark _ rJ rJ rK rJ rJ rJ ?_) | refine st_clear _ (0 : UInt8) rJ rK rJ rJ rJ rJ rJ rO ?_ | refine st_clearT _ rJ rK rO rJ rJ rO rE ?_ | (apply exlAppend; first | refine st_app0 rJ rJ rE rD rJ rE rJ rE rJ rJ rJ rO (fun v o => ?_) | refine st_app _ rJ rE rK rE rD rJ rE rJ rE rJ rJ rJ rO (fun v o => ?_) | refine st_shift _ rJ rJ rJ rK rO rJ rJ rJ rO rO rE ?_)) | (refine Ex.cond_d rJ (fun h => ?_) (fun h => ?_) <;> try (exfalso; omega))))
  generalize hd : fitC c = d at hM
  clear hd
  obtain ⟨n, hn⟩ : ∃ n : Nat, (n : Int) = d.n := ⟨d.n.toNat, by have := hM.n; omega⟩
  obtain ⟨k, hk⟩ : ∃ k : Nat, (k : Int) = 1 + many % d.w := ⟨(1 + many % d.w).toNat, by have := Int.emod_nonneg many (show d.w ≠ 0 by have := hM.w; omega); omega⟩
  obtain ⟨late, hlate⟩ : ∃ l : Nat, (l : Int) = who % d.n := ⟨(who % d.n).toNat, by have := Int.emod_nonneg who (show d.n ≠ 0 by have := hM.n; omega); omega⟩
  have hdn := hM.n
  have hdw := hM.w
  have hlt : late < n := by have := Int.emod_lt_of_pos who (show 0 < d.n by omega); omega
  have hkw : (k : Int) ≤ d.w := by have := Int.emod_lt_of_pos many (show 0 < d.w by omega); omega
  have hk1 : 1 ≤ k := by have := Int.emod_nonneg many (show d.w ≠ 0 by omega); omega
  have hnn : d.n.toNat = n := by omega
  have hnew := post_NewR d hM
  rw [hnn] at hnew
  refine st_callIs [] rJ Try.call10 rE rJ (hnew _) ?_
  rintro _ _ ⟨g0, rfl, rfl⟩
  (repeat' (first | refine ExL.val rJ rJ rJ rV ?_ | (first | refine Ex.seq ?_ | refine Ex.region ?_ | refine ExL.nil ?_ | refine thn_n ?_ | refine Ex.cond_t rJ ?_ | refine Ex.cond_f rJ ?_ | refine Ex.skip ?_ | refine Ex.block ?_ | refine Ex.exit ?_ | refine Ex.ret ?_ | refine thn_exit ?_ | refine thn_ret ?_ | refine inb_n ?_ | refine inb_hit rJ ?_ | refine inb_miss rJ ?_ | refine inb_ret ?_ | refine rnd_exit ?_ | refine rnd_ret ?_ | refine meet_ret ?_ | refine meet_exit ?_) | (apply exlGuard; first | refine ExL.gskip rJ rJ rJ rJ rJ rJ ?_ | refine ExL.gtake rJ rJ rJ rJ ?_ | refine ExL.gskipU rJ rJ rJ rJ ?_ | (refine ExL.gsplit rJ rJ rJ (fun h => ?_) (fun h => ?_) <;> try (exfalso; omega))) | (first | refine st_new_ rJ rE (fun g => ?_) | refine st_boxA rJ rJ (fun g => ?_) | refine st_box1 rJ rE rN (fun g => ?_) | (apply exlStore; first | refine st_store1_ _ rJ rK rE rN rJ rJ rE rE ?_ | refine st_storeW_ _ rJ rK rJ rC rJ rJ rJ rE ?_ | refine st_storeR _ rJ rK rJ rE rJ rJ rE ?_ | refine st_storeA_ _ rJ rK rJ rC rJ rJ rJ rE rE ?_ | refine st_storeB _ rJ rJ rO rO rK rJ rO ?_ | refine st_storeG _ rJ rK rE rN rJ rO (fun cs hcs => ?_)) | refine st_slice0 rJ rJ rJ rJ (fun g => ?_) | refine st_slice1T rJ rJ rJ rJ (fun g => ?_) | refine st_makeT rJ rJ rJ rJ rE rJ rO rO (fun v o => ?_) | (apply exlCopy; first | refine st_copyW _ rJ rE rK rE rD rJ rE rJ (fun zs hzs => ?_) | refine st_copyS _ rJ rJ rK rE rD rJ rE rJ rO rO (fun zs hzs => ?_)) | refine st_sliceB rJ rJ rJ rJ rJ rJ rJ rL rE rE rJ (fun g => ?_) | refine st_slice1I rJ rJ rJ rJ rJ rJ (fun g => ?_) | refine st_slice1B rJ rJ rJ rJ rJ rJ rO rO (fun g => ?_) | refine st_slice1S rJ rJ rJ rJ rJ rJ (fun g => ?_) | refine st_slice2B rJ rJ rJ rJ rJ rJ rJ rO rO rO rO (fun g => ?_) | (apply exlConv; first | refine st_bytes rJ rJ rJ rJ rJ rO (fun v o => ?_) | refine st_mark _ rJ rJ rK rJ rJ rJ ?_) | refine st_clear _ (0 : UInt8) rJ rK rJ rJ rJ rJ rJ rO ?_ | refine st_clearT _ rJ rK rO rJ rJ rO rE ?_ | (apply exlAppend; first | refine st_app0 rJ rJ rE rD rJ rE rJ rE rJ rJ rJ rO (fun v o => ?_) | refine st_app _ rJ rE rK rE rD rJ rE rJ rE rJ rJ rJ rO (fun v o => ?_) | refine st_shift _ rJ rJ rJ rK rO rJ rJ rJ rO rO rE ?_)) | (refine Ex.cond_d rJ (fun h => ?_) (fun h => ?_) <;> try (exfalso; omega))))
  rw [← hk, ← hlate]
  refine ExL.sub (L' := PoA g0 d.w (mkR n (fun x => Clk.zero) (fun x => 0) fun x => 0) :: Blk g 23 (Rep.cells d) :: [Base W]) ?_ rB
  have hrow := row_F 0 1 (k : Int) (PoA g0 d.w (mkR n (fun x => Clk.zero) (fun x => 0) fun x => 0) :: Blk g 23 (Rep.cells d) :: [Base W]) (by omega) (by omega)
  rw [Int.toNat_natCast] at hrow
  refine st_callIs [] rJ Try.call16 rE rJ (hrow) ?_
  rintro u _ ⟨ou, rfl⟩
  have hpush := waits_pushF g0 d.w u (Evs_ u (rowR 0 1 k) :: Blk g 23 (Rep.cells d) :: [Base W]) (show 0 < n by omega) (show n ≤ 5 by omega) hkw (by omega) rD
  refine st_callIs [1] rJ Try.call15 rE rJ (hpush) ?_
  rintro _ _ ⟨rfl, rfl⟩
  (repeat' (first | refine ExL.val rJ rJ rJ rV ?_ | (first | refine Ex.seq ?_ | refine Ex.region ?_ | refine ExL.nil ?_ | refine thn_n ?_ | refine Ex.cond_t rJ ?_ | refine Ex.cond_f rJ ?_ | refine Ex.skip ?_ | refine Ex.block ?_ | refine Ex.exit ?_ | refine Ex.ret ?_ | refine thn_exit ?_ | refine thn_ret ?_ | refine inb_n ?_ | refine inb_hit rJ ?_ | refine inb_miss rJ ?_ | refine inb_ret ?_ | refine rnd_exit ?_ | refine rnd_ret ?_ | refine meet_ret ?_ | refine meet_exit ?_) | (apply exlGuard; first | refine ExL.gskip rJ rJ rJ rJ rJ rJ ?_ | refine ExL.gtake rJ rJ rJ rJ ?_ | refine ExL.gskipU rJ rJ rJ rJ ?_ | (refine ExL.gsplit rJ rJ rJ (fun h => ?_) (fun h => ?_) <;> try (exfalso; omega))) | (first | refine st_new_ rJ rE (fun g => ?_) | refine st_boxA rJ rJ (fun g => ?_) | refine st_box1 rJ rE rN (fun g => ?_) | (apply exlStore; first | refine st_store1_ _ rJ rK rE rN rJ rJ rE rE ?_ | refine st_storeW_ _ rJ rK rJ rC rJ rJ rJ rE ?_ | refine st_storeR _ rJ rK rJ rE rJ rJ rE ?_ | refine st_storeA_ _ rJ rK rJ rC rJ rJ rJ rE rE ?_ | refine st_storeB _ rJ rJ rO rO rK rJ rO ?_ | refine st_storeG _ rJ rK rE rN rJ rO (fun cs hcs => ?_)) | refine st_slice0 rJ rJ rJ rJ (fun g => ?_) | refine st_slice1T rJ rJ rJ rJ (fun g => ?_) | refine st_makeT rJ rJ rJ rJ rE rJ rO rO (fun v o => ?_) | (apply exlCopy; first | refine st_copyW _ rJ rE rK rE rD rJ rE rJ (fun zs hzs => ?_) | refine st_copyS _ rJ rJ rK rE rD rJ rE rJ rO rO (fun zs hzs => ?_)) | refine st_sliceB rJ rJ rJ rJ rJ rJ rJ rL rE rE rJ (fun g => ?_) | refine st_slice1I rJ rJ rJ rJ rJ rJ (fun g => ?_) | refine st_slice1B rJ rJ rJ rJ rJ rJ rO rO (fun g => ?_) | refine st_slice1S rJ rJ rJ rJ rJ rJ (fun g => ?_) | refine st_slice2B rJ rJ rJ rJ rJ rJ rJ rO rO rO rO (fun g => ?_) | (apply exlConv; first | refine st_bytes rJ rJ rJ rJ rJ rO (fun v o => ?_) | refine st_mark _ rJ rJ rK rJ rJ rJ ?_) | refine st_clear _ (0 : UInt8) rJ rK rJ rJ rJ rJ rJ rO ?_ | refine st_clearT _ rJ rK rO rJ rJ rO rE ?_ | (apply exlAppend; first | refine st_app0 rJ rJ rE rD rJ rE rJ rE rJ rJ rJ rO (fun v o => ?_) | refine st_app _ rJ rE rK rE rD rJ rE rJ rE rJ rJ rJ rO (fun v o => ?_) | refine st_shift _ rJ rJ rJ rK rO rJ rJ rJ rO rO rE ?_)) | (refine Ex.cond_d rJ (fun h => ?_) (fun h => ?_) <;> try (exfalso; omega))))
  refine Ex.sub (L' := PoA g0 d.w (S16 n k (fun _ => Clk.zero) 0) :: Blk g 23 (Rep.cells d) :: [Base W]) ?_ rB
  refine Ex.loop [9, 10, 11, 12, 13, 14] (fun m vs L' => ∃ (j : Nat) (T : Nat → Clk), j ≤ n ∧ m = n - j ∧ (∀ i, T i = if i < j ∧ i ≠ late then K5 k else Clk.zero) ∧ vs = [.pointer (some ⟨g0, 0, none⟩), .int .i64 k, .int .i64 late, .int .i64 k, .int .i64 0, .int .i64 j] ∧ L' = PoA g0 d.w (S16 n k T 0) :: Blk g 23 (Rep.cells d) :: [Base W]) n ⟨0, fun _ => Clk.zero, by omega, by omega, fun i => by rw [if_neg (by omega)], rfl, rfl⟩ ?_
  rintro m vs g1 L' ⟨j, T, hj, rfl, hT, rfl, rfl⟩
  by_cases hjn : j < n
  · by_cases hjl : j = late
    · subst hjl
      (repeat' (first | refine ExL.val rJ rJ rJ rV ?_ | (first | refine Ex.seq ?_ | refine Ex.region ?_ | refine ExL.nil ?_ | refine thn_n ?_ | refine Ex.cond_t rJ ?_ | refine Ex.cond_f rJ ?_ | refine Ex.skip ?_ | refine Ex.block ?_ | refine Ex.exit ?_ | refine Ex.ret ?_ | refine thn_exit ?_ | refine thn_ret ?_ | refine inb_n ?_ | refine inb_hit rJ ?_ | refine inb_miss rJ ?_ | refine inb_ret ?_ | refine rnd_exit ?_ | refine rnd_ret ?_ | refine meet_ret ?_ | refine meet_exit ?_) | (apply exlGuard; first | refine ExL.gskip rJ rJ rJ rJ rJ rJ ?_ | refine ExL.gtake rJ rJ rJ rJ ?_ | refine ExL.gskipU rJ rJ rJ rJ ?_ | (refine ExL.gsplit rJ rJ rJ (fun h => ?_) (fun h => ?_) <;> try (exfalso; omega))) | (first | refine st_new_ rJ rE (fun g => ?_) | refine st_boxA rJ rJ (fun g => ?_) | refine st_box1 rJ rE rN (fun g => ?_) | (apply exlStore; first | refine st_store1_ _ rJ rK rE rN rJ rJ rE rE ?_ | refine st_storeW_ _ rJ rK rJ rC rJ rJ rJ rE ?_ | refine st_storeR _ rJ rK rJ rE rJ rJ rE ?_ | refine st_storeA_ _ rJ rK rJ rC rJ rJ rJ rE rE ?_ | refine st_storeB _ rJ rJ rO rO rK rJ rO ?_ | refine st_storeG _ rJ rK rE rN rJ rO (fun cs hcs => ?_)) | refine st_slice0 rJ rJ rJ rJ (fun g => ?_) | refine st_slice1T rJ rJ rJ rJ (fun g => ?_) | refine st_makeT rJ rJ rJ rJ rE rJ rO rO (fun v o => ?_) | (apply exlCopy; first | refine st_copyW _ rJ rE rK rE rD rJ rE rJ (fun zs hzs => ?_) | refine st_copyS _ rJ rJ rK rE rD rJ rE rJ rO rO (fun zs hzs => ?_)) | refine st_sliceB rJ rJ rJ rJ rJ rJ rJ rL rE rE rJ (fun g => ?_) | refine st_slice1I rJ rJ rJ rJ rJ rJ (fun g => ?_) | refine st_slice1B rJ rJ rJ rJ rJ rJ rO rO (fun g => ?_) | refine st_slice1S rJ rJ rJ rJ rJ rJ (fun g => ?_) | refine st_slice2B rJ rJ rJ rJ rJ rJ rJ rO rO rO rO (fun g => ?_) | (apply exlConv; first | refine st_bytes rJ rJ rJ rJ rJ rO (fun v o => ?_) | refine st_mark _ rJ rJ rK rJ rJ rJ ?_) | refine st_clear _ (0 : UInt8) rJ rK rJ rJ rJ rJ rJ rO ?_ | refine st_clearT _ rJ rK rO rJ rJ rO rE ?_ | (apply exlAppend; first | refine st_app0 rJ rJ rE rD rJ rE rJ rE rJ rJ rJ rO (fun v o => ?_) | refine st_app _ rJ rE rK rE rD rJ rE rJ rE rJ rJ rJ rO (fun v o => ?_) | refine st_shift _ rJ rJ rJ rK rO rJ rJ rJ rO rO rE ?_)) | (refine Ex.cond_d rJ (fun h => ?_) (fun h => ?_) <;> try (exfalso; omega))))
      exact rnd_n ⟨n - (j + 1), _, by omega, rB, j + 1, T, by omega, rfl, fun i => by
        rw [hT]
        by_cases h : i < j ∧ i ≠ j
        · rw [if_pos h, if_pos ⟨by omega, h.2⟩]
        · rw [if_neg h, if_neg (by omega)], lcons rfl (lcons rfl (lcons rfl (lcons rfl (lcons rfl (lcons (vint (by omega)) rfl))))), rfl⟩
    · have hjl2 : (j : Int) ≠ (late : Int) := by omega
      (repeat' (first | refine ExL.val rJ rJ rJ rV ?_ | (first | refine Ex.seq ?_ | refine Ex.region ?_ | refine ExL.nil ?_ | refine thn_n ?_ | refine Ex.cond_t rJ ?_ | refine Ex.cond_f rJ ?_ | refine Ex.skip ?_ | refine Ex.block ?_ | refine Ex.exit ?_ | refine Ex.ret ?_ | refine thn_exit ?_ | refine thn_ret ?_ | refine inb_n ?_ | refine inb_hit rJ ?_ | refine inb_miss rJ ?_ | refine inb_ret ?_ | refine rnd_exit ?_ | refine rnd_ret ?_ | refine meet_ret ?_ | refine meet_exit ?_) | (apply exlGuard; first | refine ExL.gskip rJ rJ rJ rJ rJ rJ ?_ | refine ExL.gtake rJ rJ rJ rJ ?_ | refine ExL.gskipU rJ rJ rJ rJ ?_ | (refine ExL.gsplit rJ rJ rJ (fun h => ?_) (fun h => ?_) <;> try (exfalso; omega))) | (first | refine st_new_ rJ rE (fun g => ?_) | refine st_boxA rJ rJ (fun g => ?_) | refine st_box1 rJ rE rN (fun g => ?_) | (apply exlStore; first | refine st_store1_ _ rJ rK rE rN rJ rJ rE rE ?_ | refine st_storeW_ _ rJ rK rJ rC rJ rJ rJ rE ?_ | refine st_storeR _ rJ rK rJ rE rJ rJ rE ?_ | refine st_storeA_ _ rJ rK rJ rC rJ rJ rJ rE rE ?_ | refine st_storeB _ rJ rJ rO rO rK rJ rO ?_ | refine st_storeG _ rJ rK rE rN rJ rO (fun cs hcs => ?_)) | refine st_slice0 rJ rJ rJ rJ (fun g => ?_) | refine st_slice1T rJ rJ rJ rJ (fun g => ?_) | refine st_makeT rJ rJ rJ rJ rE rJ rO rO (fun v o => ?_) | (apply exlCopy; first | refine st_copyW _ rJ rE rK rE rD rJ rE rJ (fun zs hzs => ?_) | refine st_copyS _ rJ rJ rK rE rD rJ rE rJ rO rO (fun zs hzs => ?_)) | refine st_sliceB rJ rJ rJ rJ rJ rJ rJ rL rE rE rJ (fun g => ?_) | refine st_slice1I rJ rJ rJ rJ rJ rJ (fun g => ?_) | refine st_slice1B rJ rJ rJ rJ rJ rJ rO rO (fun g => ?_) | refine st_slice1S rJ rJ rJ rJ rJ rJ (fun g => ?_) | refine st_slice2B rJ rJ rJ rJ rJ rJ rJ rO rO rO rO (fun g => ?_) | (apply exlConv; first | refine st_bytes rJ rJ rJ rJ rJ rO (fun v o => ?_) | refine st_mark _ rJ rJ rK rJ rJ rJ ?_) | refine st_clear _ (0 : UInt8) rJ rK rJ rJ rJ rJ rJ rO ?_ | refine st_clearT _ rJ rK rO rJ rJ rO rE ?_ | (apply exlAppend; first | refine st_app0 rJ rJ rE rD rJ rE rJ rE rJ rJ rJ rO (fun v o => ?_) | refine st_app _ rJ rE rK rE rD rJ rE rJ rE rJ rJ rJ rO (fun v o => ?_) | refine st_shift _ rJ rJ rJ rK rO rJ rJ rJ rO rO rE ?_)) | (refine Ex.cond_d rJ (fun h => ?_) (fun h => ?_) <;> try (exfalso; omega))))
      have hack := waits_ack g0 d.w (n := n) (k := k) (T := T) (fun i => if i < j + 1 ∧ i ≠ late then K5 k else Clk.zero) (c := 0) 0 (r := j) (cl := K5 k) (Blk g 23 (Rep.cells d) :: [Base W]) (by omega) (by omega) (by omega) hjn (fun i hi => by
        simp only [hT]
        by_cases h : i = j
        · subst h
          rw [if_pos rfl, if_pos ⟨by omega, hjl⟩, if_neg (by omega), zero_join _ (by unfold K5; simp only; omega)]
        · rw [if_neg h]
          by_cases h2 : i < j ∧ i ≠ late
          · rw [if_pos h2, if_pos ⟨by omega, h2.2⟩]
          · rw [if_neg h2, if_neg (by omega)]) (by
        have h1 := leastF_le (told := fun i => if i < j + 1 ∧ i ≠ late then K5 k else Clk.zero) (i := 0) hlt
        simp only [if_neg (show ¬ (late < j + 1 ∧ late ≠ late) by omega)] at h1
        rw [show Clk.zero.get 0 = 0 from rfl] at h1
        unfold cutTo
        omega)
      refine st_callIs [] rJ Try.call17 rE rJ (hack) ?_
      rintro _ _ ⟨rfl, rfl⟩
      (repeat' (first | refine ExL.val rJ rJ rJ rV ?_ | (first | refine Ex.seq ?_ | refine Ex.region ?_ | refine ExL.nil ?_ | refine thn_n ?_ | refine Ex.cond_t rJ ?_ | refine Ex.cond_f rJ ?_ | refine Ex.skip ?_ | refine Ex.block ?_ | refine Ex.exit ?_ | refine Ex.ret ?_ | refine thn_exit ?_ | refine thn_ret ?_ | refine inb_n ?_ | refine inb_hit rJ ?_ | refine inb_miss rJ ?_ | refine inb_ret ?_ | refine rnd_exit ?_ | refine rnd_ret ?_ | refine meet_ret ?_ | refine meet_exit ?_) | (apply exlGuard; first | refine ExL.gskip rJ rJ rJ rJ rJ rJ ?_ | refine ExL.gtake rJ rJ rJ rJ ?_ | refine ExL.gskipU rJ rJ rJ rJ ?_ | (refine ExL.gsplit rJ rJ rJ (fun h => ?_) (fun h => ?_) <;> try (exfalso; omega))) | (first | refine st_new_ rJ rE (fun g => ?_) | refine st_boxA rJ rJ (fun g => ?_) | refine st_box1 rJ rE rN (fun g => ?_) | (apply exlStore; first | refine st_store1_ _ rJ rK rE rN rJ rJ rE rE ?_ | refine st_storeW_ _ rJ rK rJ rC rJ rJ rJ rE ?_ | refine st_storeR _ rJ rK rJ rE rJ rJ rE ?_ | refine st_storeA_ _ rJ rK rJ rC rJ rJ rJ rE rE ?_ | refine st_storeB _ rJ rJ rO rO rK rJ rO ?_ | refine st_storeG _ rJ rK rE rN rJ rO (fun cs hcs => ?_)) | refine st_slice0 rJ rJ rJ rJ (fun g => ?_) | refine st_slice1T rJ rJ rJ rJ (fun g => ?_) | refine st_makeT rJ rJ rJ rJ rE rJ rO rO (fun v o => ?_) | (apply exlCopy; first | refine st_copyW _ rJ rE rK rE rD rJ rE rJ (fun zs hzs => ?_) | refine st_copyS _ rJ rJ rK rE rD rJ rE rJ rO rO (fun zs hzs => ?_)) | refine st_sliceB rJ rJ rJ rJ rJ rJ rJ rL rE rE rJ (fun g => ?_) | refine st_slice1I rJ rJ rJ rJ rJ rJ (fun g => ?_) | refine st_slice1B rJ rJ rJ rJ rJ rJ rO rO (fun g => ?_) | refine st_slice1S rJ rJ rJ rJ rJ rJ (fun g => ?_) | refine st_slice2B rJ rJ rJ rJ rJ rJ rJ rO rO rO rO (fun g => ?_) | (apply exlConv; first | refine st_bytes rJ rJ rJ rJ rJ rO (fun v o => ?_) | refine st_mark _ rJ rJ rK rJ rJ rJ ?_) | refine st_clear _ (0 : UInt8) rJ rK rJ rJ rJ rJ rJ rO ?_ | refine st_clearT _ rJ rK rO rJ rJ rO rE ?_ | (apply exlAppend; first | refine st_app0 rJ rJ rE rD rJ rE rJ rE rJ rJ rJ rO (fun v o => ?_) | refine st_app _ rJ rE rK rE rD rJ rE rJ rE rJ rJ rJ rO (fun v o => ?_) | refine st_shift _ rJ rJ rJ rK rO rJ rJ rJ rO rO rE ?_)) | (refine Ex.cond_d rJ (fun h => ?_) (fun h => ?_) <;> try (exfalso; omega))))
      exact rnd_n ⟨n - (j + 1), _, by omega, rB, j + 1, _, by omega, rfl, fun i => rfl, lcons rfl (lcons rfl (lcons rfl (lcons rfl (lcons rfl (lcons (vint (by omega)) rfl))))), rfl⟩
  · obtain rfl : j = n := by omega
    clear hnew hrow hpush hjn hj hnn
    have hcl0 : ∀ cl : Clk, 0 ≤ cl.a → cl.b = 0 → cl.c = 0 → cl.d = 0 → cl.e = 0 → Clk.zero.join cl = cl := fun cl h1 h2 h3 h4 h5 => zero_join cl (by omega)
    (repeat' (first | refine ExL.val rJ rJ rJ rV ?_ | (first | refine Ex.seq ?_ | refine Ex.region ?_ | refine ExL.nil ?_ | refine thn_n ?_ | refine Ex.cond_t rJ ?_ | refine Ex.cond_f rJ ?_ | refine Ex.skip ?_ | refine Ex.block ?_ | refine Ex.exit ?_ | refine Ex.ret ?_ | refine thn_exit ?_ | refine thn_ret ?_ | refine inb_n ?_ | refine inb_hit rJ ?_ | refine inb_miss rJ ?_ | refine inb_ret ?_ | refine rnd_exit ?_ | refine rnd_ret ?_ | refine meet_ret ?_ | refine meet_exit ?_) | (apply exlGuard; first | refine ExL.gskip rJ rJ rJ rJ rJ rJ ?_ | refine ExL.gtake rJ rJ rJ rJ ?_ | refine ExL.gskipU rJ rJ rJ rJ ?_ | (refine ExL.gsplit rJ rJ rJ (fun h => ?_) (fun h => ?_) <;> try (exfalso; omega))) | (first | refine st_new_ rJ rE (fun g => ?_) | refine st_boxA rJ rJ (fun g => ?_) | refine st_box1 rJ rE rN (fun g => ?_) | (apply exlStore; first | refine st_store1_ _ rJ rK rE rN rJ rJ rE rE ?_ | refine st_storeW_ _ rJ rK rJ rC rJ rJ rJ rE ?_ | refine st_storeR _ rJ rK rJ rE rJ rJ rE ?_ | refine st_storeA_ _ rJ rK rJ rC rJ rJ rJ rE rE ?_ | refine st_storeB _ rJ rJ rO rO rK rJ rO ?_ | refine st_storeG _ rJ rK rE rN rJ rO (fun cs hcs => ?_)) | refine st_slice0 rJ rJ rJ rJ (fun g => ?_) | refine st_slice1T rJ rJ rJ rJ (fun g => ?_) | refine st_makeT rJ rJ rJ rJ rE rJ rO rO (fun v o => ?_) | (apply exlCopy; first | refine st_copyW _ rJ rE rK rE rD rJ rE rJ (fun zs hzs => ?_) | refine st_copyS _ rJ rJ rK rE rD rJ rE rJ rO rO (fun zs hzs => ?_)) | refine st_sliceB rJ rJ rJ rJ rJ rJ rJ rL rE rE rJ (fun g => ?_) | refine st_slice1I rJ rJ rJ rJ rJ rJ (fun g => ?_) | refine st_slice1B rJ rJ rJ rJ rJ rJ rO rO (fun g => ?_) | refine st_slice1S rJ rJ rJ rJ rJ rJ (fun g => ?_) | refine st_slice2B rJ rJ rJ rJ rJ rJ rJ rO rO rO rO (fun g => ?_) | (apply exlConv; first | refine st_bytes rJ rJ rJ rJ rJ rO (fun v o => ?_) | refine st_mark _ rJ rJ rK rJ rJ rJ ?_) | refine st_clear _ (0 : UInt8) rJ rK rJ rJ rJ rJ rJ rO ?_ | refine st_clearT _ rJ rK rO rJ rJ rO rE ?_ | (apply exlAppend; first | refine st_app0 rJ rJ rE rD rJ rE rJ rE rJ rJ rJ rO (fun v o => ?_) | refine st_app _ rJ rE rK rE rD rJ rE rJ rE rJ rJ rJ rO (fun v o => ?_) | refine st_shift _ rJ rJ rJ rK rO rJ rJ rJ rO rO rE ?_)) | (refine Ex.cond_d rJ (fun h => ?_) (fun h => ?_) <;> try (exfalso; omega))))
    refine st_callIs [] rJ Try.call13 rE rJ (waits_site g0 d.w _ (by omega) (by omega) (by omega) (by omega)) ?_
    rintro _ _ ⟨s1, rfl, hb1, hl1, rfl⟩
    (repeat' (first | refine ExL.val rJ rJ rJ rV ?_ | (first | refine Ex.seq ?_ | refine Ex.region ?_ | refine ExL.nil ?_ | refine thn_n ?_ | refine Ex.cond_t rJ ?_ | refine Ex.cond_f rJ ?_ | refine Ex.skip ?_ | refine Ex.block ?_ | refine Ex.exit ?_ | refine Ex.ret ?_ | refine thn_exit ?_ | refine thn_ret ?_ | refine inb_n ?_ | refine inb_hit rJ ?_ | refine inb_miss rJ ?_ | refine inb_ret ?_ | refine rnd_exit ?_ | refine rnd_ret ?_ | refine meet_ret ?_ | refine meet_exit ?_) | (apply exlGuard; first | refine ExL.gskip rJ rJ rJ rJ rJ rJ ?_ | refine ExL.gtake rJ rJ rJ rJ ?_ | refine ExL.gskipU rJ rJ rJ rJ ?_ | (refine ExL.gsplit rJ rJ rJ (fun h => ?_) (fun h => ?_) <;> try (exfalso; omega))) | (first | refine st_new_ rJ rE (fun g => ?_) | refine st_boxA rJ rJ (fun g => ?_) | refine st_box1 rJ rE rN (fun g => ?_) | (apply exlStore; first | refine st_store1_ _ rJ rK rE rN rJ rJ rE rE ?_ | refine st_storeW_ _ rJ rK rJ rC rJ rJ rJ rE ?_ | refine st_storeR _ rJ rK rJ rE rJ rJ rE ?_ | refine st_storeA_ _ rJ rK rJ rC rJ rJ rJ rE rE ?_ | refine st_storeB _ rJ rJ rO rO rK rJ rO ?_ | refine st_storeG _ rJ rK rE rN rJ rO (fun cs hcs => ?_)) | refine st_slice0 rJ rJ rJ rJ (fun g => ?_) | refine st_slice1T rJ rJ rJ rJ (fun g => ?_) | refine st_makeT rJ rJ rJ rJ rE rJ rO rO (fun v o => ?_) | (apply exlCopy; first | refine st_copyW _ rJ rE rK rE rD rJ rE rJ (fun zs hzs => ?_) | refine st_copyS _ rJ rJ rK rE rD rJ rE rJ rO rO (fun zs hzs => ?_)) | refine st_sliceB rJ rJ rJ rJ rJ rJ rJ rL rE rE rJ (fun g => ?_) | refine st_slice1I rJ rJ rJ rJ rJ rJ (fun g => ?_) | refine st_slice1B rJ rJ rJ rJ rJ rJ rO rO (fun g => ?_) | refine st_slice1S rJ rJ rJ rJ rJ rJ (fun g => ?_) | refine st_slice2B rJ rJ rJ rJ rJ rJ rJ rO rO rO rO (fun g => ?_) | (apply exlConv; first | refine st_bytes rJ rJ rJ rJ rJ rO (fun v o => ?_) | refine st_mark _ rJ rJ rK rJ rJ rJ ?_) | refine st_clear _ (0 : UInt8) rJ rK rJ rJ rJ rJ rJ rO ?_ | refine st_clearT _ rJ rK rO rJ rJ rO rE ?_ | (apply exlAppend; first | refine st_app0 rJ rJ rE rD rJ rE rJ rE rJ rJ rJ rO (fun v o => ?_) | refine st_app _ rJ rE rK rE rD rJ rE rJ rE rJ rJ rJ rO (fun v o => ?_) | refine st_shift _ rJ rJ rJ rK rO rJ rJ rJ rO rO rE ?_)) | (refine Ex.cond_d rJ (fun h => ?_) (fun h => ?_) <;> try (exfalso; omega))))
    have hT1 : ∀ i, i < j → (fun i => if i = late then (⟨(k : Int) - 1, 0, 0, 0, 0⟩ : Clk) else K5 k) i = if i = late then (T late).join ⟨(k : Int) - 1, 0, 0, 0, 0⟩ else T i := fun i hi => by
      simp only [hT]
      by_cases h : i = late
      · rw [if_pos h, if_pos h, if_neg (by omega), hcl0 _ (by simp only; omega) rfl rfl rfl rfl]
      · rw [if_neg h, if_neg h, if_pos ⟨hi, h⟩]
    have hc1 : k - 1 = cutTo 0 (leastF j (fun i => if i = late then (⟨(k : Int) - 1, 0, 0, 0, 0⟩ : Clk) else K5 k) 0) k := by
      rw [leastF_eq (m := (k : Int) - 1) (fun i hi => by
        by_cases h : i = late
        · rw [if_pos h]; exact Int.le_refl _
        · rw [if_neg h]; show (k : Int) - 1 ≤ (k : Int) + 5; omega) hlt (by rw [if_pos rfl]; rfl)]
      unfold cutTo
      omega
    have hack1 := fun M => waits_ack g0 d.w (n := j) (k := k) (T := T) _ (c := 0) (k - 1) (r := late) (cl := ⟨(k : Int) - 1, 0, 0, 0, 0⟩) M (by omega) (by omega) (by omega) hlt hT1 hc1
    refine st_callIs [1] rJ Try.call17 rE rJ (hack1 _) ?_
    rintro _ _ ⟨rfl, rfl⟩
    (repeat' (first | refine ExL.val rJ rJ rJ rV ?_ | (first | refine Ex.seq ?_ | refine Ex.region ?_ | refine ExL.nil ?_ | refine thn_n ?_ | refine Ex.cond_t rJ ?_ | refine Ex.cond_f rJ ?_ | refine Ex.skip ?_ | refine Ex.block ?_ | refine Ex.exit ?_ | refine Ex.ret ?_ | refine thn_exit ?_ | refine thn_ret ?_ | refine inb_n ?_ | refine inb_hit rJ ?_ | refine inb_miss rJ ?_ | refine inb_ret ?_ | refine rnd_exit ?_ | refine rnd_ret ?_ | refine meet_ret ?_ | refine meet_exit ?_) | (apply exlGuard; first | refine ExL.gskip rJ rJ rJ rJ rJ rJ ?_ | refine ExL.gtake rJ rJ rJ rJ ?_ | refine ExL.gskipU rJ rJ rJ rJ ?_ | (refine ExL.gsplit rJ rJ rJ (fun h => ?_) (fun h => ?_) <;> try (exfalso; omega))) | (first | refine st_new_ rJ rE (fun g => ?_) | refine st_boxA rJ rJ (fun g => ?_) | refine st_box1 rJ rE rN (fun g => ?_) | (apply exlStore; first | refine st_store1_ _ rJ rK rE rN rJ rJ rE rE ?_ | refine st_storeW_ _ rJ rK rJ rC rJ rJ rJ rE ?_ | refine st_storeR _ rJ rK rJ rE rJ rJ rE ?_ | refine st_storeA_ _ rJ rK rJ rC rJ rJ rJ rE rE ?_ | refine st_storeB _ rJ rJ rO rO rK rJ rO ?_ | refine st_storeG _ rJ rK rE rN rJ rO (fun cs hcs => ?_)) | refine st_slice0 rJ rJ rJ rJ (fun g => ?_) | refine st_slice1T rJ rJ rJ rJ (fun g => ?_) | refine st_makeT rJ rJ rJ rJ rE rJ rO rO (fun v o => ?_) | (apply exlCopy; first | refine st_copyW _ rJ rE rK rE rD rJ rE rJ (fun zs hzs => ?_) | refine st_copyS _ rJ rJ rK rE rD rJ rE rJ rO rO (fun zs hzs => ?_)) | refine st_sliceB rJ rJ rJ rJ rJ rJ rJ rL rE rE rJ (fun g => ?_) | refine st_slice1I rJ rJ rJ rJ rJ rJ (fun g => ?_) | refine st_slice1B rJ rJ rJ rJ rJ rJ rO rO (fun g => ?_) | refine st_slice1S rJ rJ rJ rJ rJ rJ (fun g => ?_) | refine st_slice2B rJ rJ rJ rJ rJ rJ rJ rO rO rO rO (fun g => ?_) | (apply exlConv; first | refine st_bytes rJ rJ rJ rJ rJ rO (fun v o => ?_) | refine st_mark _ rJ rJ rK rJ rJ rJ ?_) | refine st_clear _ (0 : UInt8) rJ rK rJ rJ rJ rJ rJ rO ?_ | refine st_clearT _ rJ rK rO rJ rJ rO rE ?_ | (apply exlAppend; first | refine st_app0 rJ rJ rE rD rJ rE rJ rE rJ rJ rJ rO (fun v o => ?_) | refine st_app _ rJ rE rK rE rD rJ rE rJ rE rJ rJ rJ rO (fun v o => ?_) | refine st_shift _ rJ rJ rJ rK rO rJ rJ rJ rO rO rE ?_)) | (refine Ex.cond_d rJ (fun h => ?_) (fun h => ?_) <;> try (exfalso; omega))))
    refine st_callIs [] rJ Try.call13 rE rJ (waits_site g0 d.w _ (by omega) (by omega) (by omega) (by omega)) ?_
    rintro _ _ ⟨s2, rfl, hb2, hl2, rfl⟩
    (repeat' (first | refine ExL.val rJ rJ rJ rV ?_ | (first | refine Ex.seq ?_ | refine Ex.region ?_ | refine ExL.nil ?_ | refine thn_n ?_ | refine Ex.cond_t rJ ?_ | refine Ex.cond_f rJ ?_ | refine Ex.skip ?_ | refine Ex.block ?_ | refine Ex.exit ?_ | refine Ex.ret ?_ | refine thn_exit ?_ | refine thn_ret ?_ | refine inb_n ?_ | refine inb_hit rJ ?_ | refine inb_miss rJ ?_ | refine inb_ret ?_ | refine rnd_exit ?_ | refine rnd_ret ?_ | refine meet_ret ?_ | refine meet_exit ?_) | (apply exlGuard; first | refine ExL.gskip rJ rJ rJ rJ rJ rJ ?_ | refine ExL.gtake rJ rJ rJ rJ ?_ | refine ExL.gskipU rJ rJ rJ rJ ?_ | (refine ExL.gsplit rJ rJ rJ (fun h => ?_) (fun h => ?_) <;> try (exfalso; omega))) | (first | refine st_new_ rJ rE (fun g => ?_) | refine st_boxA rJ rJ (fun g => ?_) | refine st_box1 rJ rE rN (fun g => ?_) | (apply exlStore; first | refine st_store1_ _ rJ rK rE rN rJ rJ rE rE ?_ | refine st_storeW_ _ rJ rK rJ rC rJ rJ rJ rE ?_ | refine st_storeR _ rJ rK rJ rE rJ rJ rE ?_ | refine st_storeA_ _ rJ rK rJ rC rJ rJ rJ rE rE ?_ | refine st_storeB _ rJ rJ rO rO rK rJ rO ?_ | refine st_storeG _ rJ rK rE rN rJ rO (fun cs hcs => ?_)) | refine st_slice0 rJ rJ rJ rJ (fun g => ?_) | refine st_slice1T rJ rJ rJ rJ (fun g => ?_) | refine st_makeT rJ rJ rJ rJ rE rJ rO rO (fun v o => ?_) | (apply exlCopy; first | refine st_copyW _ rJ rE rK rE rD rJ rE rJ (fun zs hzs => ?_) | refine st_copyS _ rJ rJ rK rE rD rJ rE rJ rO rO (fun zs hzs => ?_)) | refine st_sliceB rJ rJ rJ rJ rJ rJ rJ rL rE rE rJ (fun g => ?_) | refine st_slice1I rJ rJ rJ rJ rJ rJ (fun g => ?_) | refine st_slice1B rJ rJ rJ rJ rJ rJ rO rO (fun g => ?_) | refine st_slice1S rJ rJ rJ rJ rJ rJ (fun g => ?_) | refine st_slice2B rJ rJ rJ rJ rJ rJ rJ rO rO rO rO (fun g => ?_) | (apply exlConv; first | refine st_bytes rJ rJ rJ rJ rJ rO (fun v o => ?_) | refine st_mark _ rJ rJ rK rJ rJ rJ ?_) | refine st_clear _ (0 : UInt8) rJ rK rJ rJ rJ rJ rJ rO ?_ | refine st_clearT _ rJ rK rO rJ rJ rO rE ?_ | (apply exlAppend; first | refine st_app0 rJ rJ rE rD rJ rE rJ rE rJ rJ rJ rO (fun v o => ?_) | refine st_app _ rJ rE rK rE rD rJ rE rJ rE rJ rJ rJ rO (fun v o => ?_) | refine st_shift _ rJ rJ rJ rK rO rJ rJ rJ rO rO rE ?_)) | (refine Ex.cond_d rJ (fun h => ?_) (fun h => ?_) <;> try (exfalso; omega))))
    have hT2 : ∀ i, i < j → (fun i => if i = late then (⟨(k : Int), 0, 0, 0, 0⟩ : Clk) else K5 k) i = if i = late then ((fun i => if i = late then (⟨(k : Int) - 1, 0, 0, 0, 0⟩ : Clk) else K5 k) late).join ⟨(k : Int), 0, 0, 0, 0⟩ else (fun i => if i = late then (⟨(k : Int) - 1, 0, 0, 0, 0⟩ : Clk) else K5 k) i := fun i hi => by
      simp only
      by_cases h : i = late
      · rw [if_pos h, if_pos h, if_pos trivial]
        unfold Clk.join
        simp only [Clk.mk.injEq]
        omega
      · rw [if_neg h, if_neg h, if_neg h]
    have hc2 : k = cutTo (k - 1) (leastF j (fun i => if i = late then (⟨(k : Int), 0, 0, 0, 0⟩ : Clk) else K5 k) 0) k := by
      rw [leastF_eq (m := (k : Int)) (fun i hi => by
        by_cases h : i = late
        · rw [if_pos h]; exact Int.le_refl _
        · rw [if_neg h]; show (k : Int) ≤ (k : Int) + 5; omega) hlt (by rw [if_pos rfl]; rfl)]
      unfold cutTo
      omega
    have hack2 := fun M => waits_ack g0 d.w (n := j) (k := k) _ (c := k - 1) k (r := late) (cl := ⟨(k : Int), 0, 0, 0, 0⟩) M (by omega) (by omega) (by omega) hlt hT2 hc2
    refine st_callIs [1] rJ Try.call17 rE rJ (hack2 _) ?_
    rintro _ _ ⟨rfl, rfl⟩
    (repeat' (first | refine ExL.val rJ rJ rJ rV ?_ | (first | refine Ex.seq ?_ | refine Ex.region ?_ | refine ExL.nil ?_ | refine thn_n ?_ | refine Ex.cond_t rJ ?_ | refine Ex.cond_f rJ ?_ | refine Ex.skip ?_ | refine Ex.block ?_ | refine Ex.exit ?_ | refine Ex.ret ?_ | refine thn_exit ?_ | refine thn_ret ?_ | refine inb_n ?_ | refine inb_hit rJ ?_ | refine inb_miss rJ ?_ | refine inb_ret ?_ | refine rnd_exit ?_ | refine rnd_ret ?_ | refine meet_ret ?_ | refine meet_exit ?_) | (apply exlGuard; first | refine ExL.gskip rJ rJ rJ rJ rJ rJ ?_ | refine ExL.gtake rJ rJ rJ rJ ?_ | refine ExL.gskipU rJ rJ rJ rJ ?_ | (refine ExL.gsplit rJ rJ rJ (fun h => ?_) (fun h => ?_) <;> try (exfalso; omega))) | (first | refine st_new_ rJ rE (fun g => ?_) | refine st_boxA rJ rJ (fun g => ?_) | refine st_box1 rJ rE rN (fun g => ?_) | (apply exlStore; first | refine st_store1_ _ rJ rK rE rN rJ rJ rE rE ?_ | refine st_storeW_ _ rJ rK rJ rC rJ rJ rJ rE ?_ | refine st_storeR _ rJ rK rJ rE rJ rJ rE ?_ | refine st_storeA_ _ rJ rK rJ rC rJ rJ rJ rE rE ?_ | refine st_storeB _ rJ rJ rO rO rK rJ rO ?_ | refine st_storeG _ rJ rK rE rN rJ rO (fun cs hcs => ?_)) | refine st_slice0 rJ rJ rJ rJ (fun g => ?_) | refine st_slice1T rJ rJ rJ rJ (fun g => ?_) | refine st_makeT rJ rJ rJ rJ rE rJ rO rO (fun v o => ?_) | (apply exlCopy; first | refine st_copyW _ rJ rE rK rE rD rJ rE rJ (fun zs hzs => ?_) | refine st_copyS _ rJ rJ rK rE rD rJ rE rJ rO rO (fun zs hzs => ?_)) | refine st_sliceB rJ rJ rJ rJ rJ rJ rJ rL rE rE rJ (fun g => ?_) | refine st_slice1I rJ rJ rJ rJ rJ rJ (fun g => ?_) | refine st_slice1B rJ rJ rJ rJ rJ rJ rO rO (fun g => ?_) | refine st_slice1S rJ rJ rJ rJ rJ rJ (fun g => ?_) | refine st_slice2B rJ rJ rJ rJ rJ rJ rJ rO rO rO rO (fun g => ?_) | (apply exlConv; first | refine st_bytes rJ rJ rJ rJ rJ rO (fun v o => ?_) | refine st_mark _ rJ rJ rK rJ rJ rJ ?_) | refine st_clear _ (0 : UInt8) rJ rK rJ rJ rJ rJ rJ rO ?_ | refine st_clearT _ rJ rK rO rJ rJ rO rE ?_ | (apply exlAppend; first | refine st_app0 rJ rJ rE rD rJ rE rJ rE rJ rJ rJ rO (fun v o => ?_) | refine st_app _ rJ rE rK rE rD rJ rE rJ rE rJ rJ rJ rO (fun v o => ?_) | refine st_shift _ rJ rJ rJ rK rO rJ rJ rJ rO rO rE ?_)) | (refine Ex.cond_d rJ (fun h => ?_) (fun h => ?_) <;> try (exfalso; omega))))
    refine st_callIs [] rJ Try.call13 rE rJ (waits_site g0 d.w _ (by omega) (by omega) (by omega) (by omega)) ?_
    rintro _ _ ⟨s3, rfl, hb3, hl3, rfl⟩
    (repeat' (first | refine ExL.val rJ rJ rJ rV ?_ | (first | refine Ex.seq ?_ | refine Ex.region ?_ | refine ExL.nil ?_ | refine thn_n ?_ | refine Ex.cond_t rJ ?_ | refine Ex.cond_f rJ ?_ | refine Ex.skip ?_ | refine Ex.block ?_ | refine Ex.exit ?_ | refine Ex.ret ?_ | refine thn_exit ?_ | refine thn_ret ?_ | refine inb_n ?_ | refine inb_hit rJ ?_ | refine inb_miss rJ ?_ | refine inb_ret ?_ | refine rnd_exit ?_ | refine rnd_ret ?_ | refine meet_ret ?_ | refine meet_exit ?_) | (apply exlGuard; first | refine ExL.gskip rJ rJ rJ rJ rJ rJ ?_ | refine ExL.gtake rJ rJ rJ rJ ?_ | refine ExL.gskipU rJ rJ rJ rJ ?_ | (refine ExL.gsplit rJ rJ rJ (fun h => ?_) (fun h => ?_) <;> try (exfalso; omega))) | (first | refine st_new_ rJ rE (fun g => ?_) | refine st_boxA rJ rJ (fun g => ?_) | refine st_box1 rJ rE rN (fun g => ?_) | (apply exlStore; first | refine st_store1_ _ rJ rK rE rN rJ rJ rE rE ?_ | refine st_storeW_ _ rJ rK rJ rC rJ rJ rJ rE ?_ | refine st_storeR _ rJ rK rJ rE rJ rJ rE ?_ | refine st_storeA_ _ rJ rK rJ rC rJ rJ rJ rE rE ?_ | refine st_storeB _ rJ rJ rO rO rK rJ rO ?_ | refine st_storeG _ rJ rK rE rN rJ rO (fun cs hcs => ?_)) | refine st_slice0 rJ rJ rJ rJ (fun g => ?_) | refine st_slice1T rJ rJ rJ rJ (fun g => ?_) | refine st_makeT rJ rJ rJ rJ rE rJ rO rO (fun v o => ?_) | (apply exlCopy; first | refine st_copyW _ rJ rE rK rE rD rJ rE rJ (fun zs hzs => ?_) | refine st_copyS _ rJ rJ rK rE rD rJ rE rJ rO rO (fun zs hzs => ?_)) | refine st_sliceB rJ rJ rJ rJ rJ rJ rJ rL rE rE rJ (fun g => ?_) | refine st_slice1I rJ rJ rJ rJ rJ rJ (fun g => ?_) | refine st_slice1B rJ rJ rJ rJ rJ rJ rO rO (fun g => ?_) | refine st_slice1S rJ rJ rJ rJ rJ rJ (fun g => ?_) | refine st_slice2B rJ rJ rJ rJ rJ rJ rJ rO rO rO rO (fun g => ?_) | (apply exlConv; first | refine st_bytes rJ rJ rJ rJ rJ rO (fun v o => ?_) | refine st_mark _ rJ rJ rK rJ rJ rJ ?_) | refine st_clear _ (0 : UInt8) rJ rK rJ rJ rJ rJ rJ rO ?_ | refine st_clearT _ rJ rK rO rJ rJ rO rE ?_ | (apply exlAppend; first | refine st_app0 rJ rJ rE rD rJ rE rJ rE rJ rJ rJ rO (fun v o => ?_) | refine st_app _ rJ rE rK rE rD rJ rE rJ rE rJ rJ rJ rO (fun v o => ?_) | refine st_shift _ rJ rJ rJ rK rO rJ rJ rJ rO rO rE ?_)) | (refine Ex.cond_d rJ (fun h => ?_) (fun h => ?_) <;> try (exfalso; omega))))
    (first | refine fin_ret rS ?_ | refine fin_norm rS ?_)
    exact ⟨_, rB, rfl, rfl⟩
end Go.Proofs.Ytkcpgdkchglhhaa
/- How a hub stands, compared; what a push of the next row does. No condition. -/
namespace Go.Proofs.Ytkcpgdkchglhhaa
open Go.RowKit
set_option linter.unusedSimpArgs false
set_option linter.unusedVariables false
instance : EqT Try.prog 39 Hs := ⟨6, .b :: List.replicate 35 (.i .i64), by kernel_rfl, by kernel_rfl, by kernel_rfl, by kernel_rfl, fun _ => rfl, fun a b h => by
  obtain ⟨⟨a1, a2, a3, a4, a5⟩, ⟨b1, b2, b3, b4, b5⟩, ⟨c1, c2, c3, c4, c5⟩, ⟨d1, d2, d3, d4, d5⟩, ⟨e1, e2, e3, e4, e5⟩, ⟨f1, f2, f3, f4, f5⟩, ⟨g1, g2, g3, g4, g5⟩⟩ := a
  obtain ⟨⟨A1, A2, A3, A4, A5⟩, ⟨B1, B2, B3, B4, B5⟩, ⟨C1, C2, C3, C4, C5⟩, ⟨D1, D2, D3, D4, D5⟩, ⟨E1, E2, E3, E4, E5⟩, ⟨F1, F2, F3, F4, F5⟩, ⟨G1, G2, G3, G4, G5⟩⟩ := b
  simp only [Rep.cells, List.cons_append, List.nil_append, List.append_assoc, List.cons.injEq, Value.int.injEq, true_and, and_true] at h
  simp only [Hs.mk.injEq, Clk.mk.injEq]
  obtain ⟨h1, h2, h3, h4, h5, h6, h7, h8, h9, h10, h11, h12, h13, h14, h15, h16, h17, h18, h19, h20, h21, h22, h23, h24, h25, h26, h27, h28, h29, h30, h31, h32, h33, h34, h35⟩ := h
  exact ⟨⟨h1, h2, h3, h4, h5⟩, ⟨h6, h7, h8, h9, h10⟩, ⟨h11, h12, h13, h14, h15⟩, ⟨h16, h17, h18, h19, h20⟩, ⟨h21, h22, h23, h24, h25⟩, ⟨h26, h27, h28, h29, h30⟩, ⟨h31, h32, h33, h34, h35⟩⟩⟩
/-- A push of the next k of r's row. -/
theorem push_next (g : Nat) (most : Int) (n : Nat) (T : Nat → Clk) (len cut : Nat → Nat) {r k : Nat} {a : Int} (u : Value) (M : List Assn) (hn : n ≤ 5) (hr : r < n) (hi : ∀ i, i < n → cut i ≤ len i ∧ len i ≤ 1000000) (ha : a = (len r : Int) + 1) (hk : k ≤ 1000000) (hu : RdT M u (rowR r a k)) :
    Fn Try.prog 15 #[.pointer (some ⟨g, 0, none⟩), .int .i64 r, u] (PoA g most (mkR n T len cut) :: M) fun v L' =>
      ((k = 0 ∨ (len r : Int) - cut r + k ≤ most) ∧ v = .tuple #[.int .i64 ((len r : Int) + k), .int .i64 0] ∧ L' = PoA g most (mkR n T (put1 len r (len r + k)) (put1 cut r (cutTo (cut r) (leastF n T r) (len r + k)))) :: M) ∨
      (¬ (k = 0 ∨ (len r : Int) - cut r + k ≤ most) ∧ v = .tuple #[.int .i64 0, .int .i64 21] ∧ L' = PoA g most (mkR n T len cut) :: M) := by
  subst ha
  have hlr := hi r hr
  have h := post_PushA g most (mkR n T len cut) r u (rowR r ((len r : Int) + 1) k) M (mkR_ok hn hi) hu (by rw [rowR_len]; exact hk) (fun e he => by
    obtain ⟨i, hi, rfl⟩ := rowR_mem he
    unfold I64 evR
    simp only
    omega)
  by_cases hw : k = 0 ∨ (len r : Int) - cut r + k ≤ most
  · rw [mkR_push n T len cut hr (.inr (Int.le_refl _)) hlr.1 (f := k) (by omega) hw] at h
    refine h.res ?_
    rintro v L' ⟨rfl, rfl⟩
    exact ⟨_, Sub.refl _, .inl ⟨hw, by simp, rfl⟩⟩
  · rw [mkR_pushF n T len cut hr (Int.le_refl _) hlr.1 (f := k) (by omega) (by omega) (by omega)] at h
    refine h.res ?_
    rintro v L' ⟨rfl, rfl⟩
    exact ⟨_, Sub.refl _, .inr ⟨hw, rfl, rfl⟩⟩
end Go.Proofs.Ytkcpgdkchglhhaa
/- A call of layer 16. No condition. -/
namespace Go.Proofs.Ytkcpgdkchglhhaa
open Go.RowKit
set_option linter.unusedSimpArgs false
set_option linter.unusedVariables false
def Clk.I (c : Clk) : Prop := ∀ i, i < 5 → I64 (c.get i)
structure Op16 where
  kind : Int
  many : Int
  back : Int
  r : Int
  c : Clk
  v : Value
  one : v.oneCell' = true
  l : List Ev
instance : Rep Op16 := ⟨10, fun o => [.int .u8 o.kind, .int .u8 o.many, .int .u8 o.back, .int .i64 o.r, .int .i64 o.c.a, .int .i64 o.c.b, .int .i64 o.c.c, .int .i64 o.c.d, .int .i64 o.c.e, o.v], by decide, fun _ => rfl, fun o => by simp only [List.all_cons, List.all_nil, o.one, Bool.and_true]; rfl⟩
structure Op16.Ok (L : List Assn) (o : Op16) : Prop where
  k : 0 ≤ o.kind ∧ o.kind ≤ 255
  m : 0 ≤ o.many ∧ o.many ≤ 255
  b : 0 ≤ o.back ∧ o.back ≤ 255
  r : I64 o.r
  c : o.c.I
  rd : RdT L o.v o.l
  n : ∀ e ∈ o.l, I64 e.n
end Go.Proofs.Ytkcpgdkchglhhaa
