/- Several texts, one behind the other; each says in its head what it proves. No condition. -/
import Derived.Test.YtkcpgdkchglhhaaZgeknhhji
import Derived.Test.YtkcpgdkchglhhaaZldjckhlk
/- The reference of layer 16, walked: is, cut, Ack. No condition. -/
namespace Go.Proofs.Ytkcpgdkchglhhaa
open Go.RowKit
set_option linter.unusedSimpArgs false
set_option linter.unusedVariables false
@[reducible] def RPo (g : Nat) (c : Cfg) (ss : List Sh) (tl : List Clk) : Assn := Blk g 67 (Rep.cells c ++ cellsOf (ss.map fun s => Ptr.mk s.g) ++ cellsOf tl)
@[reducible] def RShs (most : Int) (ss : List Sh) : Assn := StarOf (RShB most) RShC ss
@[reducible] def RShsBut (most : Int) (ss : List Sh) (i : Nat) : Assn := StarBut (RShB most) RShC ss i
theorem rpost_opn {g : Nat} {c : Cfg} {ss : List Sh} {tl : List Clk} {s : Nat} (hs : s < ss.length) (M : List Assn) : Sub (RShB c.w (ss[s]'hs) :: RShC (ss[s]'hs) :: RShsBut c.w ss s :: RPo g c ss tl :: M) (RPo g c ss tl :: RShs c.w ss :: M) :=
  Sub.fr [1] rfl (StarOf.focus (B := RShB c.w) (C := RShC) _ hs)
theorem rpost_put {g : Nat} {c : Cfg} {ss : List Sh} {tl : List Clk} {s : Nat} {x : Sh} (hs : s < ss.length) (hg : x.g = (ss[s]'hs).g) (M : List Assn) : Sub (RPo g c (ss.set s x) tl :: RShs c.w (ss.set s x) :: M) (RShB c.w x :: RShC x :: RShsBut c.w ss s :: RPo g c ss tl :: M) := by
  refine Sub.trans ?_ (StarOf.unfocus (B := RShB c.w) (C := RShC) x _ hs)
  unfold RPo
  rw [map_set_g hs hg]
  exact Sub.fr [1] rfl (Sub.refl _)
theorem rpost_cls {g : Nat} {c : Cfg} {ss : List Sh} {tl : List Clk} {s : Nat} (hs : s < ss.length) (M : List Assn) : Sub (RPo g c ss tl :: RShs c.w ss :: M) (RShB c.w (ss[s]'hs) :: RShC (ss[s]'hs) :: RShsBut c.w ss s :: RPo g c ss tl :: M) := by
  have := rpost_put (g := g) (c := c) (tl := tl) hs (x := ss[s]'hs) rfl M
  rwa [List.set_getElem_self] at this
section
variable {P : Program} {f : Nat → Value} {L : List Assn} {d : Nat} {ty : TypeId} {pos : String} {af : Array Edge} {gd : Option (Nat × Bool)}
theorem vl_rptr (i : Nat) {t : TypeId} {x : Operand} {g j : Nat} {c : Cfg} {ss : List Sh} {tl : List Clk} (hx : evalF f x = .pointer (some ⟨g, 6 + j * 1, none⟩)) (hi : L[i]? = some (RPo g c ss tl)) (hA : aggB P t = some false) (hj : j < ss.length) :
    Val P ⟨some d, .load t x, ty, pos, af, gd⟩ f L (.pointer (some ⟨(ss[j]'hj).g, 0, none⟩)) := by
  refine vl_loadM1 (α := Ptr) i (ss.map fun s => Ptr.mk s.g) (g := g) (j := j) (o := 6) (q := 0) (sz := 1) (pre := Rep.cells c) (post := cellsOf tl) hx hi rfl rfl hA rfl (by simpa using hj) (by omega) ?_
  rw [List.getElem_map]
  rfl
theorem vl_rtold (i : Nat) {t : TypeId} {x : Operand} {g k s : Nat} {c : Cfg} {ss : List Sh} {tl : List Clk} (h5 : ss.length = 5) (hx : evalF f x = .pointer (some ⟨g, 11 + k * 5 + s * 1, none⟩)) (hi : L[i]? = some (RPo g c ss tl)) (hA : aggB P t = some false) (hk : k < tl.length) (hs : s < 5) :
    Val P ⟨some d, .load t x, ty, pos, af, gd⟩ f L (.int .i64 ((tl[k]'hk).get s)) := by
  rw [Nat.mul_one] at hx
  exact vl_loadM1 (α := Clk) i tl (g := g) (j := k) (o := 11) (q := s) (sz := 5) (pre := Rep.cells c ++ cellsOf (ss.map fun s => Ptr.mk s.g)) (post := []) hx hi (by simp) (by rw [List.length_append, cellsOf_len, List.length_map, h5]; rfl) hA rfl hk hs (clk_cell _ s hs)
theorem vl_rack (i : Nat) {t : TypeId} {x : Operand} {g k : Nat} {c : Cfg} {ss : List Sh} {tl : List Clk} (h5 : ss.length = 5) (hx : evalF f x = .pointer (some ⟨g, 11 + k * 5, none⟩)) (hi : L[i]? = some (RPo g c ss tl)) (hA : aggB P t = some true) (hm : P.cellsOf t = 5) (hk : k < tl.length) :
    Val P ⟨some d, .load t x, ty, pos, af, gd⟩ f L (.agg (Rep.cells (tl[k]'hk)).toArray) :=
  vl_loadMA (α := Clk) i tl (g := g) (j := k) (o := 11) (sz := 5) (pre := Rep.cells c ++ cellsOf (ss.map fun s => Ptr.mk s.g)) (post := []) hx hi (by simp) (by rw [List.length_append, cellsOf_len, List.length_map, h5]; rfl) hA hm rfl hk
theorem vl_racks (i : Nat) {t : TypeId} {x : Operand} {g : Nat} {c : Cfg} {ss : List Sh} {tl : List Clk} (h5 : ss.length = 5) (ht5 : tl.length = 5) (hx : evalF f x = .pointer (some ⟨g, 11, none⟩)) (hi : L[i]? = some (RPo g c ss tl)) (hA : aggB P t = some true) (hm : P.cellsOf t = 25) :
    Val P ⟨some d, .load t x, ty, pos, af, gd⟩ f L (.agg (cellsOf tl).toArray) := fun F w s => by
  have hl : (cellsOf tl).length = 25 := by rw [cellsOf_len, ht5]; rfl
  have hp : (Rep.cells c ++ cellsOf (ss.map fun s => Ptr.mk s.g)).length = 11 := by rw [List.length_append, cellsOf_len, List.length_map, h5]; rfl
  have := run_loadVarA (P := P) w (t := t) (a := ⟨g, 11, none⟩) (cs := cellsOf tl) hA (by rw [hm, hl]) (by rw [hl]; omega) (fun k u hk => by
    rw [addr_add]
    refine blk_cell hi ?_ s
    rw [List.getElem?_append_right (by omega), hp, show 11 + k - 11 = k by omega]
    exact hk)
  simp [execOp, hx, Instr.loadAt, Instr.sureAddr, this]
end
/-- The least of the first k. -/
theorem leastK_le5 {tl : List Clk} {n : Nat} (hn : 0 < n) (s : Nat) : leastK tl s n = leastR (tl.take n) s := by
  unfold leastK leastR
  congr 1
  cases tl with
  | nil => simp
  | cons a t =>
    cases n with
    | zero => omega
    | succ n => rfl
set_option maxRecDepth 20000 attribute [local irreducible] Ex ExL Fn thn inb rnd fin meet Tab Mix mxEnd Val Sats RdT Rd RowT Row Blk Sub Fac ResV RVal Evs subs subs3 Hid Capd
attribute [local irreducible] StarOf StarBut
theorem rpost_is (g : Nat) (c : Cfg) (ss : List Sh) (tl : List Clk) (r : Int) (M : List Assn) : Fn Try.prog 33 #[.pointer (some ⟨g, 0, none⟩), .int .i64 r] (RPo g c ss tl :: M)
    fun v L' => v = .bool (decide (0 ≤ r ∧ r < c.n)) ∧ L' = RPo g c ss tl :: M := by
  refine Fn.of_ex Try.func33 rfl Try.ntmps33 rfl ?_
  by_cases h0 : 0 ≤ r
  · by_cases h1 : r < c.n
    · rw [decide_eq_true ⟨h0, h1⟩]
      (repeat' (first | refine ExL.val rJ rJ rJ rV ?_ | (first | refine Ex.seq ?_ | refine Ex.region ?_ | refine ExL.nil ?_ | refine thn_n ?_ | refine Ex.cond_t rJ ?_ | refine Ex.cond_f rJ ?_ | refine Ex.skip ?_ | refine Ex.block ?_ | refine Ex.exit ?_ | refine Ex.ret ?_ | refine thn_exit ?_ | refine thn_ret ?_ | refine inb_n ?_ | refine inb_hit rJ ?_ | refine inb_miss rJ ?_ | refine inb_ret ?_ | refine rnd_exit ?_ | refine rnd_ret ?_ | refine meet_ret ?_ | refine meet_exit ?_) | (apply exlGuard; first | refine ExL.gskip rJ rJ rJ rJ rJ rJ ?_ | refine ExL.gtake rJ rJ rJ rJ ?_ | refine ExL.gskipU rJ rJ rJ rJ ?_ | (refine ExL.gsplit rJ rJ rJ (fun h => ?_) (fun h => ?_) <;> try (exfalso; omega))) | (first | refine st_new_ rJ rE (fun g => ?_) | refine st_boxA rJ rJ (fun g => ?_) | refine st_box1 rJ rE rN (fun g => ?_) | (apply exlStore; first | refine st_store1_ _ rJ rK rE rN rJ rJ rE rE ?_ | refine st_storeW_ _ rJ rK rJ rC rJ rJ rJ rE ?_ | refine st_storeR _ rJ rK rJ rE rJ rJ rE ?_ | refine st_storeA_ _ rJ rK rJ rC rJ rJ rJ rE rE ?_ | refine st_storeB _ rJ rJ rO rO rK rJ rO ?_ | refine st_storeG _ rJ rK rE rN rJ rO (fun cs hcs => ?_)) | refine st_slice0 rJ rJ rJ rJ (fun g => ?_) | refine st_slice1T rJ rJ rJ rJ (fun g => ?_) | refine st_makeT rJ rJ rJ rJ rE rJ rO rO (fun v o => ?_) | (apply exlCopy; first | refine st_copyW _ rJ rE rK rE rD rJ rE rJ (fun zs hzs => ?_) | refine st_copyS _ rJ rJ rK rE rD rJ rE rJ rO rO (fun zs hzs => ?_)) | refine st_sliceB rJ rJ rJ rJ rJ rJ rJ rL rE rE rJ (fun g => ?_) | refine st_slice1I rJ rJ rJ rJ rJ rJ (fun g => ?_) | refine st_slice1B rJ rJ rJ rJ rJ rJ rO rO (fun g => ?_) | refine st_slice1S rJ rJ rJ rJ rJ rJ (fun g => ?_) | refine st_slice2B rJ rJ rJ rJ rJ rJ rJ rO rO rO rO (fun g => ?_) | (apply exlConv; first | refine st_bytes rJ rJ rJ rJ rJ rO (fun v o => ?_) | refine st_mark _ rJ rJ rK rJ rJ rJ ?_) | refine st_clear _ (0 : UInt8) rJ rK rJ rJ rJ rJ rJ rO ?_ | refine st_clearT _ rJ rK rO rJ rJ rO rE ?_ | (apply exlAppend; first | refine st_app0 rJ rJ rE rD rJ rE rJ rE rJ rJ rJ rO (fun v o => ?_) | refine st_app _ rJ rE rK rE rD rJ rE rJ rE rJ rJ rJ rO (fun v o => ?_) | refine st_shift _ rJ rJ rJ rK rO rJ rJ rJ rO rO rE ?_)) | (refine Ex.cond_d rJ (fun h => ?_) (fun h => ?_) <;> try (exfalso; omega))))
      (first | refine fin_ret rS ?_ | refine fin_norm rS ?_)
      exact ⟨_, rB, rfl, rfl⟩
    · rw [decide_eq_false (fun h => h1 h.2)]
      (repeat' (first | refine ExL.val rJ rJ rJ rV ?_ | (first | refine Ex.seq ?_ | refine Ex.region ?_ | refine ExL.nil ?_ | refine thn_n ?_ | refine Ex.cond_t rJ ?_ | refine Ex.cond_f rJ ?_ | refine Ex.skip ?_ | refine Ex.block ?_ | refine Ex.exit ?_ | refine Ex.ret ?_ | refine thn_exit ?_ | refine thn_ret ?_ | refine inb_n ?_ | refine inb_hit rJ ?_ | refine inb_miss rJ ?_ | refine inb_ret ?_ | refine rnd_exit ?_ | refine rnd_ret ?_ | refine meet_ret ?_ | refine meet_exit ?_) | (apply exlGuard; first | refine ExL.gskip rJ rJ rJ rJ rJ rJ ?_ | refine ExL.gtake rJ rJ rJ rJ ?_ | refine ExL.gskipU rJ rJ rJ rJ ?_ | (refine ExL.gsplit rJ rJ rJ (fun h => ?_) (fun h => ?_) <;> try (exfalso; omega))) | (first | refine st_new_ rJ rE (fun g => ?_) | refine st_boxA rJ rJ (fun g => ?_) | refine st_box1 rJ rE rN (fun g => ?_) | (apply exlStore; first | refine st_store1_ _ rJ rK rE rN rJ rJ rE rE ?_ | refine st_storeW_ _ rJ rK rJ rC rJ rJ rJ rE ?_ | refine st_storeR _ rJ rK rJ rE rJ rJ rE ?_ | refine st_storeA_ _ rJ rK rJ rC rJ rJ rJ rE rE ?_ | refine st_storeB _ rJ rJ rO rO rK rJ rO ?_ | refine st_storeG _ rJ rK rE rN rJ rO (fun cs hcs => ?_)) | refine st_slice0 rJ rJ rJ rJ (fun g => ?_) | refine st_slice1T rJ rJ rJ rJ (fun g => ?_) | refine st_makeT rJ rJ rJ rJ rE rJ rO rO (fun v o => ?_) | (apply exlCopy; first | refine st_copyW _ rJ rE rK rE rD rJ rE rJ (fun zs hzs => ?_) | refine st_copyS _ rJ rJ rK rE rD rJ rE rJ rO rO (fun zs hzs => ?_)) | refine st_sliceB rJ rJ rJ rJ rJ rJ rJ rL rE rE rJ (fun g => ?_) | refine st_slice1I rJ rJ rJ rJ rJ rJ (fun g => ?_) | refine st_slice1B rJ rJ rJ rJ rJ rJ rO rO (fun g => ?_) | refine st_slice1S rJ rJ rJ rJ rJ rJ (fun g => ?_) | refine st_slice2B rJ rJ rJ rJ rJ rJ rJ rO rO rO rO (fun g => ?_) | (apply exlConv; first | refine st_bytes rJ rJ rJ rJ rJ rO (fun v o => ?_) | refine st_mark _ rJ rJ rK rJ rJ rJ ?_) | refine st_clear _ (0 : UInt8) rJ rK rJ rJ rJ rJ rJ rO ?_ | refine st_clearT _ rJ rK rO rJ rJ rO rE ?_ | (apply exlAppend; first | refine st_app0 rJ rJ rE rD rJ rE rJ rE rJ rJ rJ rO (fun v o => ?_) | refine st_app _ rJ rE rK rE rD rJ rE rJ rE rJ rJ rJ rO (fun v o => ?_) | refine st_shift _ rJ rJ rJ rK rO rJ rJ rJ rO rO rE ?_)) | (refine Ex.cond_d rJ (fun h => ?_) (fun h => ?_) <;> try (exfalso; omega))))
      (first | refine fin_ret rS ?_ | refine fin_norm rS ?_)
      exact ⟨_, rB, rfl, rfl⟩
  · rw [decide_eq_false (fun h => h0 h.1)]
    (repeat' (first | refine ExL.val rJ rJ rJ rV ?_ | (first | refine Ex.seq ?_ | refine Ex.region ?_ | refine ExL.nil ?_ | refine thn_n ?_ | refine Ex.cond_t rJ ?_ | refine Ex.cond_f rJ ?_ | refine Ex.skip ?_ | refine Ex.block ?_ | refine Ex.exit ?_ | refine Ex.ret ?_ | refine thn_exit ?_ | refine thn_ret ?_ | refine inb_n ?_ | refine inb_hit rJ ?_ | refine inb_miss rJ ?_ | refine inb_ret ?_ | refine rnd_exit ?_ | refine rnd_ret ?_ | refine meet_ret ?_ | refine meet_exit ?_) | (apply exlGuard; first | refine ExL.gskip rJ rJ rJ rJ rJ rJ ?_ | refine ExL.gtake rJ rJ rJ rJ ?_ | refine ExL.gskipU rJ rJ rJ rJ ?_ | (refine ExL.gsplit rJ rJ rJ (fun h => ?_) (fun h => ?_) <;> try (exfalso; omega))) | (first | refine st_new_ rJ rE (fun g => ?_) | refine st_boxA rJ rJ (fun g => ?_) | refine st_box1 rJ rE rN (fun g => ?_) | (apply exlStore; first | refine st_store1_ _ rJ rK rE rN rJ rJ rE rE ?_ | refine st_storeW_ _ rJ rK rJ rC rJ rJ rJ rE ?_ | refine st_storeR _ rJ rK rJ rE rJ rJ rE ?_ | refine st_storeA_ _ rJ rK rJ rC rJ rJ rJ rE rE ?_ | refine st_storeB _ rJ rJ rO rO rK rJ rO ?_ | refine st_storeG _ rJ rK rE rN rJ rO (fun cs hcs => ?_)) | refine st_slice0 rJ rJ rJ rJ (fun g => ?_) | refine st_slice1T rJ rJ rJ rJ (fun g => ?_) | refine st_makeT rJ rJ rJ rJ rE rJ rO rO (fun v o => ?_) | (apply exlCopy; first | refine st_copyW _ rJ rE rK rE rD rJ rE rJ (fun zs hzs => ?_) | refine st_copyS _ rJ rJ rK rE rD rJ rE rJ rO rO (fun zs hzs => ?_)) | refine st_sliceB rJ rJ rJ rJ rJ rJ rJ rL rE rE rJ (fun g => ?_) | refine st_slice1I rJ rJ rJ rJ rJ rJ (fun g => ?_) | refine st_slice1B rJ rJ rJ rJ rJ rJ rO rO (fun g => ?_) | refine st_slice1S rJ rJ rJ rJ rJ rJ (fun g => ?_) | refine st_slice2B rJ rJ rJ rJ rJ rJ rJ rO rO rO rO (fun g => ?_) | (apply exlConv; first | refine st_bytes rJ rJ rJ rJ rJ rO (fun v o => ?_) | refine st_mark _ rJ rJ rK rJ rJ rJ ?_) | refine st_clear _ (0 : UInt8) rJ rK rJ rJ rJ rJ rJ rO ?_ | refine st_clearT _ rJ rK rO rJ rJ rO rE ?_ | (apply exlAppend; first | refine st_app0 rJ rJ rE rD rJ rE rJ rE rJ rJ rJ rO (fun v o => ?_) | refine st_app _ rJ rE rK rE rD rJ rE rJ rE rJ rJ rJ rO (fun v o => ?_) | refine st_shift _ rJ rJ rJ rK rO rJ rJ rJ rO rO rE ?_)) | (refine Ex.cond_d rJ (fun h => ?_) (fun h => ?_) <;> try (exfalso; omega))))
    (first | refine fin_ret rS ?_ | refine fin_norm rS ?_)
    exact ⟨_, rB, rfl, rfl⟩
set_option maxHeartbeats 2000000 in
theorem rpost_cut (g : Nat) (c : Cfg) (ss : List Sh) (tl : List Clk) (s n : Nat) (M : List Assn) (h5 : ss.length = 5) (ht5 : tl.length = 5) (hs : s < ss.length) (hn : (n : Int) = c.n) (hn1 : 0 < n) (hn5 : n ≤ 5) (hok : (ss[s]'hs).sf.Ok) (hal : (ss[s]'hs).sf.all.length ≤ 100000000) :
    Fn Try.prog 35 #[.pointer (some ⟨g, 0, none⟩), .int .i64 s] (RPo g c ss tl :: RShs c.w ss :: M)
    fun _ L' => ∃ x : Sh, x.g = (ss[s]'hs).g ∧ x.sf = (ss[s]'hs).sf.to (leastR (tl.take n) s) ∧ L' = RPo g c (ss.set s x) tl :: RShs c.w (ss.set s x) :: M := by
  have hs5 : s < 5 := by omega
  refine Fn.of_ex Try.func35 rfl Try.ntmps35 rfl ?_
  (repeat' (first | refine ExL.val rJ rJ rJ rV ?_ | (first | refine Ex.seq ?_ | refine Ex.region ?_ | refine ExL.nil ?_ | refine thn_n ?_ | refine Ex.cond_t rJ ?_ | refine Ex.cond_f rJ ?_ | refine Ex.skip ?_ | refine Ex.block ?_ | refine Ex.exit ?_ | refine Ex.ret ?_ | refine thn_exit ?_ | refine thn_ret ?_ | refine inb_n ?_ | refine inb_hit rJ ?_ | refine inb_miss rJ ?_ | refine inb_ret ?_ | refine rnd_exit ?_ | refine rnd_ret ?_ | refine meet_ret ?_ | refine meet_exit ?_) | (apply exlGuard; first | refine ExL.gskip rJ rJ rJ rJ rJ rJ ?_ | refine ExL.gtake rJ rJ rJ rJ ?_ | refine ExL.gskipU rJ rJ rJ rJ ?_ | (refine ExL.gsplit rJ rJ rJ (fun h => ?_) (fun h => ?_) <;> try (exfalso; omega))) | (first | refine st_new_ rJ rE (fun g => ?_) | refine st_boxA rJ rJ (fun g => ?_) | refine st_box1 rJ rE rN (fun g => ?_) | (apply exlStore; first | refine st_store1_ _ rJ rK rE rN rJ rJ rE rE ?_ | refine st_storeW_ _ rJ rK rJ rC rJ rJ rJ rE ?_ | refine st_storeR _ rJ rK rJ rE rJ rJ rE ?_ | refine st_storeA_ _ rJ rK rJ rC rJ rJ rJ rE rE ?_ | refine st_storeB _ rJ rJ rO rO rK rJ rO ?_ | refine st_storeG _ rJ rK rE rN rJ rO (fun cs hcs => ?_)) | refine st_slice0 rJ rJ rJ rJ (fun g => ?_) | refine st_slice1T rJ rJ rJ rJ (fun g => ?_) | refine st_makeT rJ rJ rJ rJ rE rJ rO rO (fun v o => ?_) | (apply exlCopy; first | refine st_copyW _ rJ rE rK rE rD rJ rE rJ (fun zs hzs => ?_) | refine st_copyS _ rJ rJ rK rE rD rJ rE rJ rO rO (fun zs hzs => ?_)) | refine st_sliceB rJ rJ rJ rJ rJ rJ rJ rL rE rE rJ (fun g => ?_) | refine st_slice1I rJ rJ rJ rJ rJ rJ (fun g => ?_) | refine st_slice1B rJ rJ rJ rJ rJ rJ rO rO (fun g => ?_) | refine st_slice1S rJ rJ rJ rJ rJ rJ (fun g => ?_) | refine st_slice2B rJ rJ rJ rJ rJ rJ rJ rO rO rO rO (fun g => ?_) | (apply exlConv; first | refine st_bytes rJ rJ rJ rJ rJ rO (fun v o => ?_) | refine st_mark _ rJ rJ rK rJ rJ rJ ?_) | refine st_clear _ (0 : UInt8) rJ rK rJ rJ rJ rJ rJ rO ?_ | refine st_clearT _ rJ rK rO rJ rJ rO rE ?_ | (apply exlAppend; first | refine st_app0 rJ rJ rE rD rJ rE rJ rE rJ rJ rJ rO (fun v o => ?_) | refine st_app _ rJ rE rK rE rD rJ rE rJ rE rJ rJ rJ rO (fun v o => ?_) | refine st_shift _ rJ rJ rJ rK rO rJ rJ rJ rO rO rE ?_)) | (refine Ex.cond_d rJ (fun h => ?_) (fun h => ?_) <;> try (exfalso; omega))))
  refine ExL.val rJ rJ rJ (vl_rtold 0 (k := 0) (s := s) h5 rJ rJ rJ (by omega) hs5) ?_
  rw [leastK_zero s (by omega)]
  (repeat' (first | refine ExL.val rJ rJ rJ rV ?_ | (first | refine Ex.seq ?_ | refine Ex.region ?_ | refine ExL.nil ?_ | refine thn_n ?_ | refine Ex.cond_t rJ ?_ | refine Ex.cond_f rJ ?_ | refine Ex.skip ?_ | refine Ex.block ?_ | refine Ex.exit ?_ | refine Ex.ret ?_ | refine thn_exit ?_ | refine thn_ret ?_ | refine inb_n ?_ | refine inb_hit rJ ?_ | refine inb_miss rJ ?_ | refine inb_ret ?_ | refine rnd_exit ?_ | refine rnd_ret ?_ | refine meet_ret ?_ | refine meet_exit ?_) | (apply exlGuard; first | refine ExL.gskip rJ rJ rJ rJ rJ rJ ?_ | refine ExL.gtake rJ rJ rJ rJ ?_ | refine ExL.gskipU rJ rJ rJ rJ ?_ | (refine ExL.gsplit rJ rJ rJ (fun h => ?_) (fun h => ?_) <;> try (exfalso; omega))) | (first | refine st_new_ rJ rE (fun g => ?_) | refine st_boxA rJ rJ (fun g => ?_) | refine st_box1 rJ rE rN (fun g => ?_) | (apply exlStore; first | refine st_store1_ _ rJ rK rE rN rJ rJ rE rE ?_ | refine st_storeW_ _ rJ rK rJ rC rJ rJ rJ rE ?_ | refine st_storeR _ rJ rK rJ rE rJ rJ rE ?_ | refine st_storeA_ _ rJ rK rJ rC rJ rJ rJ rE rE ?_ | refine st_storeB _ rJ rJ rO rO rK rJ rO ?_ | refine st_storeG _ rJ rK rE rN rJ rO (fun cs hcs => ?_)) | refine st_slice0 rJ rJ rJ rJ (fun g => ?_) | refine st_slice1T rJ rJ rJ rJ (fun g => ?_) | refine st_makeT rJ rJ rJ rJ rE rJ rO rO (fun v o => ?_) | (apply exlCopy; first | refine st_copyW _ rJ rE rK rE rD rJ rE rJ (fun zs hzs => ?_) | refine st_copyS _ rJ rJ rK rE rD rJ rE rJ rO rO (fun zs hzs => ?_)) | refine st_sliceB rJ rJ rJ rJ rJ rJ rJ rL rE rE rJ (fun g => ?_) | refine st_slice1I rJ rJ rJ rJ rJ rJ (fun g => ?_) | refine st_slice1B rJ rJ rJ rJ rJ rJ rO rO (fun g => ?_) | refine st_slice1S rJ rJ rJ rJ rJ rJ (fun g => ?_) | refine st_slice2B rJ rJ rJ rJ rJ rJ rJ rO rO rO rO (fun g => ?_) | (apply exlConv; first | refine st_bytes rJ rJ rJ rJ rJ rO (fun v o => ?_) | refine st_mark _ rJ rJ rK rJ rJ rJ ?_) | refine st_clear _ (0 : UInt8) rJ rK rJ rJ rJ rJ rJ rO ?_ | refine st_clearT _ rJ rK rO rJ rJ rO rE ?_ | (apply exlAppend; first | refine st_app0 rJ rJ rE rD rJ rE rJ rE rJ rJ rJ rO (fun v o => ?_) | refine st_app _ rJ rE rK rE rD rJ rE rJ rE rJ rJ rJ rO (fun v o => ?_) | refine st_shift _ rJ rJ rJ rK rO rJ rJ rJ rO rO rE ?_)) | (refine Ex.cond_d rJ (fun h => ?_) (fun h => ?_) <;> try (exfalso; omega))))
  refine Ex.loop [4, 5] (fun m vs2 L' => ∃ k : Nat, k ≤ n ∧ m = n - k ∧ vs2 = [.int .i64 (leastK tl s k), .int .i64 k] ∧ L' = RPo g c ss tl :: RShs c.w ss :: M) n ⟨0, by omega, rfl, rfl, rfl⟩ ?_
  rintro m vs2 g1 L' ⟨k, hk, rfl, rfl, rfl⟩
  refine Ex.keep [0, 1, 4, 5] rG (fun gk => ?_)
  by_cases hlt : k < n
  · (repeat' (first | refine ExL.val rJ rJ rJ rV ?_ | (first | refine Ex.seq ?_ | refine Ex.region ?_ | refine ExL.nil ?_ | refine thn_n ?_ | refine Ex.cond_t rJ ?_ | refine Ex.cond_f rJ ?_ | refine Ex.skip ?_ | refine Ex.block ?_ | refine Ex.exit ?_ | refine Ex.ret ?_ | refine thn_exit ?_ | refine thn_ret ?_ | refine inb_n ?_ | refine inb_hit rJ ?_ | refine inb_miss rJ ?_ | refine inb_ret ?_ | refine rnd_exit ?_ | refine rnd_ret ?_ | refine meet_ret ?_ | refine meet_exit ?_) | (apply exlGuard; first | refine ExL.gskip rJ rJ rJ rJ rJ rJ ?_ | refine ExL.gtake rJ rJ rJ rJ ?_ | refine ExL.gskipU rJ rJ rJ rJ ?_ | (refine ExL.gsplit rJ rJ rJ (fun h => ?_) (fun h => ?_) <;> try (exfalso; omega))) | (first | refine st_new_ rJ rE (fun g => ?_) | refine st_boxA rJ rJ (fun g => ?_) | refine st_box1 rJ rE rN (fun g => ?_) | (apply exlStore; first | refine st_store1_ _ rJ rK rE rN rJ rJ rE rE ?_ | refine st_storeW_ _ rJ rK rJ rC rJ rJ rJ rE ?_ | refine st_storeR _ rJ rK rJ rE rJ rJ rE ?_ | refine st_storeA_ _ rJ rK rJ rC rJ rJ rJ rE rE ?_ | refine st_storeB _ rJ rJ rO rO rK rJ rO ?_ | refine st_storeG _ rJ rK rE rN rJ rO (fun cs hcs => ?_)) | refine st_slice0 rJ rJ rJ rJ (fun g => ?_) | refine st_slice1T rJ rJ rJ rJ (fun g => ?_) | refine st_makeT rJ rJ rJ rJ rE rJ rO rO (fun v o => ?_) | (apply exlCopy; first | refine st_copyW _ rJ rE rK rE rD rJ rE rJ (fun zs hzs => ?_) | refine st_copyS _ rJ rJ rK rE rD rJ rE rJ rO rO (fun zs hzs => ?_)) | refine st_sliceB rJ rJ rJ rJ rJ rJ rJ rL rE rE rJ (fun g => ?_) | refine st_slice1I rJ rJ rJ rJ rJ rJ (fun g => ?_) | refine st_slice1B rJ rJ rJ rJ rJ rJ rO rO (fun g => ?_) | refine st_slice1S rJ rJ rJ rJ rJ rJ (fun g => ?_) | refine st_slice2B rJ rJ rJ rJ rJ rJ rJ rO rO rO rO (fun g => ?_) | (apply exlConv; first | refine st_bytes rJ rJ rJ rJ rJ rO (fun v o => ?_) | refine st_mark _ rJ rJ rK rJ rJ rJ ?_) | refine st_clear _ (0 : UInt8) rJ rK rJ rJ rJ rJ rJ rO ?_ | refine st_clearT _ rJ rK rO rJ rJ rO rE ?_ | (apply exlAppend; first | refine st_app0 rJ rJ rE rD rJ rE rJ rE rJ rJ rJ rO (fun v o => ?_) | refine st_app _ rJ rE rK rE rD rJ rE rJ rE rJ rJ rJ rO (fun v o => ?_) | refine st_shift _ rJ rJ rJ rK rO rJ rJ rJ rO rO rE ?_)) | (refine Ex.cond_d rJ (fun h => ?_) (fun h => ?_) <;> try (exfalso; omega))))
    refine ExL.val rJ rJ rJ (vl_rtold 0 (k := k) (s := s) h5 rJ rJ rJ (by omega) hs5) ?_
    (repeat' (first | refine ExL.val rJ rJ rJ rV ?_ | (first | refine Ex.seq ?_ | refine Ex.region ?_ | refine ExL.nil ?_ | refine thn_n ?_ | refine Ex.cond_t rJ ?_ | refine Ex.cond_f rJ ?_ | refine Ex.skip ?_ | refine Ex.block ?_ | refine Ex.exit ?_ | refine Ex.ret ?_ | refine thn_exit ?_ | refine thn_ret ?_ | refine inb_n ?_ | refine inb_hit rJ ?_ | refine inb_miss rJ ?_ | refine inb_ret ?_ | refine rnd_exit ?_ | refine rnd_ret ?_ | refine meet_ret ?_ | refine meet_exit ?_) | (apply exlGuard; first | refine ExL.gskip rJ rJ rJ rJ rJ rJ ?_ | refine ExL.gtake rJ rJ rJ rJ ?_ | refine ExL.gskipU rJ rJ rJ rJ ?_ | (refine ExL.gsplit rJ rJ rJ (fun h => ?_) (fun h => ?_) <;> try (exfalso; omega))) | (first | refine st_new_ rJ rE (fun g => ?_) | refine st_boxA rJ rJ (fun g => ?_) | refine st_box1 rJ rE rN (fun g => ?_) | (apply exlStore; first | refine st_store1_ _ rJ rK rE rN rJ rJ rE rE ?_ | refine st_storeW_ _ rJ rK rJ rC rJ rJ rJ rE ?_ | refine st_storeR _ rJ rK rJ rE rJ rJ rE ?_ | refine st_storeA_ _ rJ rK rJ rC rJ rJ rJ rE rE ?_ | refine st_storeB _ rJ rJ rO rO rK rJ rO ?_ | refine st_storeG _ rJ rK rE rN rJ rO (fun cs hcs => ?_)) | refine st_slice0 rJ rJ rJ rJ (fun g => ?_) | refine st_slice1T rJ rJ rJ rJ (fun g => ?_) | refine st_makeT rJ rJ rJ rJ rE rJ rO rO (fun v o => ?_) | (apply exlCopy; first | refine st_copyW _ rJ rE rK rE rD rJ rE rJ (fun zs hzs => ?_) | refine st_copyS _ rJ rJ rK rE rD rJ rE rJ rO rO (fun zs hzs => ?_)) | refine st_sliceB rJ rJ rJ rJ rJ rJ rJ rL rE rE rJ (fun g => ?_) | refine st_slice1I rJ rJ rJ rJ rJ rJ (fun g => ?_) | refine st_slice1B rJ rJ rJ rJ rJ rJ rO rO (fun g => ?_) | refine st_slice1S rJ rJ rJ rJ rJ rJ (fun g => ?_) | refine st_slice2B rJ rJ rJ rJ rJ rJ rJ rO rO rO rO (fun g => ?_) | (apply exlConv; first | refine st_bytes rJ rJ rJ rJ rJ rO (fun v o => ?_) | refine st_mark _ rJ rJ rK rJ rJ rJ ?_) | refine st_clear _ (0 : UInt8) rJ rK rJ rJ rJ rJ rJ rO ?_ | refine st_clearT _ rJ rK rO rJ rJ rO rE ?_ | (apply exlAppend; first | refine st_app0 rJ rJ rE rD rJ rE rJ rE rJ rJ rJ rO (fun v o => ?_) | refine st_app _ rJ rE rK rE rD rJ rE rJ rE rJ rJ rJ rO (fun v o => ?_) | refine st_shift _ rJ rJ rJ rK rO rJ rJ rJ rO rO rE ?_)) | (refine Ex.cond_d rJ (fun h => ?_) (fun h => ?_) <;> try (exfalso; omega))))
    rw [← leastK_succ (by omega)]
    (repeat' (first | refine ExL.val rJ rJ rJ rV ?_ | (first | refine Ex.seq ?_ | refine Ex.region ?_ | refine ExL.nil ?_ | refine thn_n ?_ | refine Ex.cond_t rJ ?_ | refine Ex.cond_f rJ ?_ | refine Ex.skip ?_ | refine Ex.block ?_ | refine Ex.exit ?_ | refine Ex.ret ?_ | refine thn_exit ?_ | refine thn_ret ?_ | refine inb_n ?_ | refine inb_hit rJ ?_ | refine inb_miss rJ ?_ | refine inb_ret ?_ | refine rnd_exit ?_ | refine rnd_ret ?_ | refine meet_ret ?_ | refine meet_exit ?_) | (apply exlGuard; first | refine ExL.gskip rJ rJ rJ rJ rJ rJ ?_ | refine ExL.gtake rJ rJ rJ rJ ?_ | refine ExL.gskipU rJ rJ rJ rJ ?_ | (refine ExL.gsplit rJ rJ rJ (fun h => ?_) (fun h => ?_) <;> try (exfalso; omega))) | (first | refine st_new_ rJ rE (fun g => ?_) | refine st_boxA rJ rJ (fun g => ?_) | refine st_box1 rJ rE rN (fun g => ?_) | (apply exlStore; first | refine st_store1_ _ rJ rK rE rN rJ rJ rE rE ?_ | refine st_storeW_ _ rJ rK rJ rC rJ rJ rJ rE ?_ | refine st_storeR _ rJ rK rJ rE rJ rJ rE ?_ | refine st_storeA_ _ rJ rK rJ rC rJ rJ rJ rE rE ?_ | refine st_storeB _ rJ rJ rO rO rK rJ rO ?_ | refine st_storeG _ rJ rK rE rN rJ rO (fun cs hcs => ?_)) | refine st_slice0 rJ rJ rJ rJ (fun g => ?_) | refine st_slice1T rJ rJ rJ rJ (fun g => ?_) | refine st_makeT rJ rJ rJ rJ rE rJ rO rO (fun v o => ?_) | (apply exlCopy; first | refine st_copyW _ rJ rE rK rE rD rJ rE rJ (fun zs hzs => ?_) | refine st_copyS _ rJ rJ rK rE rD rJ rE rJ rO rO (fun zs hzs => ?_)) | refine st_sliceB rJ rJ rJ rJ rJ rJ rJ rL rE rE rJ (fun g => ?_) | refine st_slice1I rJ rJ rJ rJ rJ rJ (fun g => ?_) | refine st_slice1B rJ rJ rJ rJ rJ rJ rO rO (fun g => ?_) | refine st_slice1S rJ rJ rJ rJ rJ rJ (fun g => ?_) | refine st_slice2B rJ rJ rJ rJ rJ rJ rJ rO rO rO rO (fun g => ?_) | (apply exlConv; first | refine st_bytes rJ rJ rJ rJ rJ rO (fun v o => ?_) | refine st_mark _ rJ rJ rK rJ rJ rJ ?_) | refine st_clear _ (0 : UInt8) rJ rK rJ rJ rJ rJ rJ rO ?_ | refine st_clearT _ rJ rK rO rJ rJ rO rE ?_ | (apply exlAppend; first | refine st_app0 rJ rJ rE rD rJ rE rJ rE rJ rJ rJ rO (fun v o => ?_) | refine st_app _ rJ rE rK rE rD rJ rE rJ rE rJ rJ rJ rO (fun v o => ?_) | refine st_shift _ rJ rJ rJ rK rO rJ rJ rJ rO rO rE ?_)) | (refine Ex.cond_d rJ (fun h => ?_) (fun h => ?_) <;> try (exfalso; omega))))
    exact rnd_n ⟨n - (k + 1), _, by omega, rB, k + 1, by omega, rfl, lcons rfl (lcons (vint (by omega)) rfl), rfl⟩
  · obtain rfl : k = n := by omega
    rw [leastK_le5 hn1]
    (repeat' (first | refine ExL.val rJ rJ rJ rV ?_ | (first | refine Ex.seq ?_ | refine Ex.region ?_ | refine ExL.nil ?_ | refine thn_n ?_ | refine Ex.cond_t rJ ?_ | refine Ex.cond_f rJ ?_ | refine Ex.skip ?_ | refine Ex.block ?_ | refine Ex.exit ?_ | refine Ex.ret ?_ | refine thn_exit ?_ | refine thn_ret ?_ | refine inb_n ?_ | refine inb_hit rJ ?_ | refine inb_miss rJ ?_ | refine inb_ret ?_ | refine rnd_exit ?_ | refine rnd_ret ?_ | refine meet_ret ?_ | refine meet_exit ?_) | (apply exlGuard; first | refine ExL.gskip rJ rJ rJ rJ rJ rJ ?_ | refine ExL.gtake rJ rJ rJ rJ ?_ | refine ExL.gskipU rJ rJ rJ rJ ?_ | (refine ExL.gsplit rJ rJ rJ (fun h => ?_) (fun h => ?_) <;> try (exfalso; omega))) | (first | refine st_new_ rJ rE (fun g => ?_) | refine st_boxA rJ rJ (fun g => ?_) | refine st_box1 rJ rE rN (fun g => ?_) | (apply exlStore; first | refine st_store1_ _ rJ rK rE rN rJ rJ rE rE ?_ | refine st_storeW_ _ rJ rK rJ rC rJ rJ rJ rE ?_ | refine st_storeR _ rJ rK rJ rE rJ rJ rE ?_ | refine st_storeA_ _ rJ rK rJ rC rJ rJ rJ rE rE ?_ | refine st_storeB _ rJ rJ rO rO rK rJ rO ?_ | refine st_storeG _ rJ rK rE rN rJ rO (fun cs hcs => ?_)) | refine st_slice0 rJ rJ rJ rJ (fun g => ?_) | refine st_slice1T rJ rJ rJ rJ (fun g => ?_) | refine st_makeT rJ rJ rJ rJ rE rJ rO rO (fun v o => ?_) | (apply exlCopy; first | refine st_copyW _ rJ rE rK rE rD rJ rE rJ (fun zs hzs => ?_) | refine st_copyS _ rJ rJ rK rE rD rJ rE rJ rO rO (fun zs hzs => ?_)) | refine st_sliceB rJ rJ rJ rJ rJ rJ rJ rL rE rE rJ (fun g => ?_) | refine st_slice1I rJ rJ rJ rJ rJ rJ (fun g => ?_) | refine st_slice1B rJ rJ rJ rJ rJ rJ rO rO (fun g => ?_) | refine st_slice1S rJ rJ rJ rJ rJ rJ (fun g => ?_) | refine st_slice2B rJ rJ rJ rJ rJ rJ rJ rO rO rO rO (fun g => ?_) | (apply exlConv; first | refine st_bytes rJ rJ rJ rJ rJ rO (fun v o => ?_) | refine st_mark _ rJ rJ rK rJ rJ rJ ?_) | refine st_clear _ (0 : UInt8) rJ rK rJ rJ rJ rJ rJ rO ?_ | refine st_clearT _ rJ rK rO rJ rJ rO rE ?_ | (apply exlAppend; first | refine st_app0 rJ rJ rE rD rJ rE rJ rE rJ rJ rJ rO (fun v o => ?_) | refine st_app _ rJ rE rK rE rD rJ rE rJ rE rJ rJ rJ rO (fun v o => ?_) | refine st_shift _ rJ rJ rJ rK rO rJ rJ rJ rO rO rE ?_)) | (refine Ex.cond_d rJ (fun h => ?_) (fun h => ?_) <;> try (exfalso; omega))))
    refine ExL.val rJ rJ rJ (vl_rptr 0 (j := s) rJ rJ rJ hs) ?_
    (repeat' (first | refine ExL.val rJ rJ rJ rV ?_ | (first | refine Ex.seq ?_ | refine Ex.region ?_ | refine ExL.nil ?_ | refine thn_n ?_ | refine Ex.cond_t rJ ?_ | refine Ex.cond_f rJ ?_ | refine Ex.skip ?_ | refine Ex.block ?_ | refine Ex.exit ?_ | refine Ex.ret ?_ | refine thn_exit ?_ | refine thn_ret ?_ | refine inb_n ?_ | refine inb_hit rJ ?_ | refine inb_miss rJ ?_ | refine inb_ret ?_ | refine rnd_exit ?_ | refine rnd_ret ?_ | refine meet_ret ?_ | refine meet_exit ?_) | (apply exlGuard; first | refine ExL.gskip rJ rJ rJ rJ rJ rJ ?_ | refine ExL.gtake rJ rJ rJ rJ ?_ | refine ExL.gskipU rJ rJ rJ rJ ?_ | (refine ExL.gsplit rJ rJ rJ (fun h => ?_) (fun h => ?_) <;> try (exfalso; omega))) | (first | refine st_new_ rJ rE (fun g => ?_) | refine st_boxA rJ rJ (fun g => ?_) | refine st_box1 rJ rE rN (fun g => ?_) | (apply exlStore; first | refine st_store1_ _ rJ rK rE rN rJ rJ rE rE ?_ | refine st_storeW_ _ rJ rK rJ rC rJ rJ rJ rE ?_ | refine st_storeR _ rJ rK rJ rE rJ rJ rE ?_ | refine st_storeA_ _ rJ rK rJ rC rJ rJ rJ rE rE ?_ | refine st_storeB _ rJ rJ rO rO rK rJ rO ?_ | refine st_storeG _ rJ rK rE rN rJ rO (fun cs hcs => ?_)) | refine st_slice0 rJ rJ rJ rJ (fun g => ?_) | refine st_slice1T rJ rJ rJ rJ (fun g => ?_) | refine st_makeT rJ rJ rJ rJ rE rJ rO rO (fun v o => ?_) | (apply exlCopy; first | refine st_copyW _ rJ rE rK rE rD rJ rE rJ (fun zs hzs => ?_) | refine st_copyS _ rJ rJ rK rE rD rJ rE rJ rO rO (fun zs hzs => ?_)) | refine st_sliceB rJ rJ rJ rJ rJ rJ rJ rL rE rE rJ (fun g => ?_) | refine st_slice1I rJ rJ rJ rJ rJ rJ (fun g => ?_) | refine st_slice1B rJ rJ rJ rJ rJ rJ rO rO (fun g => ?_) | refine st_slice1S rJ rJ rJ rJ rJ rJ (fun g => ?_) | refine st_slice2B rJ rJ rJ rJ rJ rJ rJ rO rO rO rO (fun g => ?_) | (apply exlConv; first | refine st_bytes rJ rJ rJ rJ rJ rO (fun v o => ?_) | refine st_mark _ rJ rJ rK rJ rJ rJ ?_) | refine st_clear _ (0 : UInt8) rJ rK rJ rJ rJ rJ rJ rO ?_ | refine st_clearT _ rJ rK rO rJ rJ rO rE ?_ | (apply exlAppend; first | refine st_app0 rJ rJ rE rD rJ rE rJ rE rJ rJ rJ rO (fun v o => ?_) | refine st_app _ rJ rE rK rE rD rJ rE rJ rE rJ rJ rJ rO (fun v o => ?_) | refine st_shift _ rJ rJ rJ rK rO rJ rJ rJ rO rO rE ?_)) | (refine Ex.cond_d rJ (fun h => ?_) (fun h => ?_) <;> try (exfalso; omega))))
    refine ExL.sub (L' := RShB c.w (ss[s]'hs) :: RShC (ss[s]'hs) :: RShsBut c.w ss s :: RPo g c ss tl :: M) ?_ (rpost_opn hs M)
    unfold Sf.Ok at hok
    refine st_callIs [] rJ Try.call38 rE rJ (rshelf_Cut (ss[s]'hs).g c.w (ss[s]'hs).sf.cut (leastR (tl.take k) s) (ss[s]'hs).v (ss[s]'hs).sf.all _ (by omega)) ?_
    rintro _ _ rfl
    (repeat' (first | refine ExL.val rJ rJ rJ rV ?_ | (first | refine Ex.seq ?_ | refine Ex.region ?_ | refine ExL.nil ?_ | refine thn_n ?_ | refine Ex.cond_t rJ ?_ | refine Ex.cond_f rJ ?_ | refine Ex.skip ?_ | refine Ex.block ?_ | refine Ex.exit ?_ | refine Ex.ret ?_ | refine thn_exit ?_ | refine thn_ret ?_ | refine inb_n ?_ | refine inb_hit rJ ?_ | refine inb_miss rJ ?_ | refine inb_ret ?_ | refine rnd_exit ?_ | refine rnd_ret ?_ | refine meet_ret ?_ | refine meet_exit ?_) | (apply exlGuard; first | refine ExL.gskip rJ rJ rJ rJ rJ rJ ?_ | refine ExL.gtake rJ rJ rJ rJ ?_ | refine ExL.gskipU rJ rJ rJ rJ ?_ | (refine ExL.gsplit rJ rJ rJ (fun h => ?_) (fun h => ?_) <;> try (exfalso; omega))) | (first | refine st_new_ rJ rE (fun g => ?_) | refine st_boxA rJ rJ (fun g => ?_) | refine st_box1 rJ rE rN (fun g => ?_) | (apply exlStore; first | refine st_store1_ _ rJ rK rE rN rJ rJ rE rE ?_ | refine st_storeW_ _ rJ rK rJ rC rJ rJ rJ rE ?_ | refine st_storeR _ rJ rK rJ rE rJ rJ rE ?_ | refine st_storeA_ _ rJ rK rJ rC rJ rJ rJ rE rE ?_ | refine st_storeB _ rJ rJ rO rO rK rJ rO ?_ | refine st_storeG _ rJ rK rE rN rJ rO (fun cs hcs => ?_)) | refine st_slice0 rJ rJ rJ rJ (fun g => ?_) | refine st_slice1T rJ rJ rJ rJ (fun g => ?_) | refine st_makeT rJ rJ rJ rJ rE rJ rO rO (fun v o => ?_) | (apply exlCopy; first | refine st_copyW _ rJ rE rK rE rD rJ rE rJ (fun zs hzs => ?_) | refine st_copyS _ rJ rJ rK rE rD rJ rE rJ rO rO (fun zs hzs => ?_)) | refine st_sliceB rJ rJ rJ rJ rJ rJ rJ rL rE rE rJ (fun g => ?_) | refine st_slice1I rJ rJ rJ rJ rJ rJ (fun g => ?_) | refine st_slice1B rJ rJ rJ rJ rJ rJ rO rO (fun g => ?_) | refine st_slice1S rJ rJ rJ rJ rJ rJ (fun g => ?_) | refine st_slice2B rJ rJ rJ rJ rJ rJ rJ rO rO rO rO (fun g => ?_) | (apply exlConv; first | refine st_bytes rJ rJ rJ rJ rJ rO (fun v o => ?_) | refine st_mark _ rJ rJ rK rJ rJ rJ ?_) | refine st_clear _ (0 : UInt8) rJ rK rJ rJ rJ rJ rJ rO ?_ | refine st_clearT _ rJ rK rO rJ rJ rO rE ?_ | (apply exlAppend; first | refine st_app0 rJ rJ rE rD rJ rE rJ rE rJ rJ rJ rO (fun v o => ?_) | refine st_app _ rJ rE rK rE rD rJ rE rJ rE rJ rJ rJ rO (fun v o => ?_) | refine st_shift _ rJ rJ rJ rK rO rJ rJ rJ rO rO rE ?_)) | (refine Ex.cond_d rJ (fun h => ?_) (fun h => ?_) <;> try (exfalso; omega))))
    (first | refine fin_ret rS ?_ | refine fin_norm rS ?_)
    obtain ⟨B, hB⟩ : ∃ B : Nat, (B : Int) = max ((ss[s]'hs).sf.cut : Int) (min (leastR (tl.take k) s) (ss[s]'hs).sf.all.length) := ⟨(max ((ss[s]'hs).sf.cut : Int) (min (leastR (tl.take k) s) (ss[s]'hs).sf.all.length)).toNat, by omega⟩
    have hx : (ss[s]'hs).sf.to (leastR (tl.take k) s) = ⟨(ss[s]'hs).sf.all, B⟩ := by unfold Sf.to; rw [← hB, Int.toNat_natCast]
    refine ⟨_, ?_, ⟨(ss[s]'hs).g, (ss[s]'hs).v, (ss[s]'hs).one, ⟨(ss[s]'hs).sf.all, B⟩⟩, rfl, hx.symm, rfl⟩
    refine Sub.trans (rpost_put (x := ⟨(ss[s]'hs).g, (ss[s]'hs).v, (ss[s]'hs).one, ⟨(ss[s]'hs).sf.all, B⟩⟩) hs rfl M) ?_
    rw [← hB]
    exact rB
end Go.Proofs.Ytkcpgdkchglhhaa
/- A region that draws its order, in which some read ahead of whatever acts. No condition. -/
namespace Go.Proofs.Ytkcpgdkchglhhaa
open Go.RowKit
set_option linter.unusedSimpArgs false
set_option linter.unusedVariables false
def earlyOk (ops : Array Oper) (kd : Nat → Nat) (m : Nat) : Bool := (List.range m).all fun j => !loudK (kd j) || (List.range m).all fun k => !Nat.beq (kd k) 1 || Nat.blt k j
/-- As Mix; an operation of kind 1 reads ahead of whatever acts, and may read Le. -/
def MixE (P : Program) (n : Nat) (ops : Array Oper) (kd : Nat → Nat) (Lb Le : List Assn) (Z : (Nat → Value) → List Assn → Prop) : List (Nat × Oper) → (Nat → Value) → List Assn → Prop
  | [], f, L => (∃ D F w a, Agree D n a f ∧ Sats w L F) → ∃ L2, Sub L2 L ∧ Z f L2
  | (i, o) :: l, f, L => (∃ D F w a, Agree D n a f ∧ Sats w L F) →
    if wantF ops f o = true then
      if kd i = 0 then ∃ v, Val P o f Lb v ∧ MixE P n ops kd Lb Le Z l (updo f o.dst v) L
      else if kd i = 1 then ∃ v, Val P o f Le v ∧ MixE P n ops kd Lb Le Z l (updo f o.dst v) L
      else ∀ F w0 w, Rest w0 w → Sats w L F → LW P o f w fun v w' => ∃ L2, Fac Lb L2 ∧ Rest w0 w' ∧ Sats w' L2 F ∧ MixE P n ops kd Lb Le Z l (updo f o.dst v) L2
    else MixE P n ops kd Lb Le Z l (updo f o.dst undef) L
section
variable {P : Program} {n : Nat} {ops : Array Oper} {kd : Nat → Nat} {Lb Le : List Assn} {m : Nat} {Z : (Nat → Value) → List Assn → Prop}
theorem MixE.sub : ∀ {l : List (Nat × Oper)} {f : Nat → Value} {L1 L2 : List Assn}, Sub L2 L1 → MixE P n ops kd Lb Le Z l f L2 → MixE P n ops kd Lb Le Z l f L1
  | [], f, L1, L2, hs, h => fun ⟨D, F, w, a, ag, s⟩ => let ⟨L3, h1, h2⟩ := h ⟨D, F, w, a, ag, hs w F s⟩; ⟨L3, Sub.trans h1 hs, h2⟩
  | (i, o) :: l, f, L1, L2, hs, h => by
    rintro ⟨D, F, w, a, ag, s⟩
    have hb := h ⟨D, F, w, a, ag, hs w F s⟩
    split
    · rename_i hw
      rw [if_pos hw] at hb
      split
      · rename_i hk; rw [if_pos hk] at hb
        obtain ⟨v, hv, hm⟩ := hb
        exact ⟨v, hv, MixE.sub hs hm⟩
      · rename_i hk; rw [if_neg hk] at hb
        split
        · rename_i hk2; rw [if_pos hk2] at hb
          obtain ⟨v, hv, hm⟩ := hb
          exact ⟨v, hv, MixE.sub hs hm⟩
        · rename_i hk2; rw [if_neg hk2] at hb
          exact fun F w0 w r s => hb F w0 w r (hs w F s)
    · rename_i hw
      rw [if_neg hw] at hb
      exact MixE.sub hs hb
theorem MixE.tail {x : Nat × Oper} {l l' : List (Nat × Oper)} (hl : ∀ f L, Fac Lb L → MixE P n ops kd Lb Le Z l f L → MixE P n ops kd Lb Le Z l' f L) {f : Nat → Value} {L : List Assn} (hf : Fac Lb L) (h : MixE P n ops kd Lb Le Z (x :: l) f L) : MixE P n ops kd Lb Le Z (x :: l') f L := by
  obtain ⟨i, o⟩ := x
  intro W
  have hb := h W
  split
  · rename_i hw
    rw [if_pos hw] at hb
    split
    · rename_i hk; rw [if_pos hk] at hb
      obtain ⟨v, hv, hm⟩ := hb
      exact ⟨v, hv, hl _ _ hf hm⟩
    · rename_i hk; rw [if_neg hk] at hb
      split
      · rename_i hk2; rw [if_pos hk2] at hb
        obtain ⟨v, hv, hm⟩ := hb
        exact ⟨v, hv, hl _ _ hf hm⟩
      · rename_i hk2; rw [if_neg hk2] at hb
        exact fun F w0 w r s => (hb F w0 w r s).mono fun v w' ⟨L2, h1, h2, h3, h4⟩ => ⟨L2, h1, h2, h3, hl _ _ h1 h4⟩
  · rename_i hw
    rw [if_neg hw] at hb
    exact hl _ _ hf hb
theorem MixE.wit : ∀ {l : List (Nat × Oper)} {f : Nat → Value} {L : List Assn}, ((∃ D F w a, Agree D n a f ∧ Sats w L F) → MixE P n ops kd Lb Le Z l f L) → MixE P n ops kd Lb Le Z l f L
  | [], _, _, h => fun W => h W W
  | (_, _) :: _, _, _, h => fun W => h W W
/-- Two that may change places. -/
theorem MixE.swap {k i : Nat} {p o : Oper} {l : List (Nat × Oper)} (hsp : ∀ cs b, p.op ≠ .select cs b) (hso : ∀ cs b, o.op ≠ .select cs b) (hap : p.apart ops o = true) (hdp : dstOk n p.dst = true) (hdo : dstOk n o.dst = true)
    (hkk : kd i = 0 ∨ kd k = 0 ∨ (kd i = 1 ∧ kd k = 1)) {f : Nat → Value} {L : List Assn} (hf : Fac Lb L) (h : MixE P n ops kd Lb Le Z ((k, p) :: (i, o) :: l) f L) : MixE P n ops kd Lb Le Z ((i, o) :: (k, p) :: l) f L := by
  obtain ⟨a1, a2, a3⟩ := Oper.apart_spec hap
  have ep : ∀ f v, execOp (evalF (updo f o.dst v)) p = execOp (evalF f) p := fun f v => exec_updo f p hsp o.dst v a3
  have eo : ∀ f v, execOp (evalF (updo f p.dst v)) o = execOp (evalF f) o := fun f v => exec_updo f o hso p.dst v a1
  have wp : ∀ f v, wantF ops (updo f o.dst v) p = wantF ops f p := fun f v => want_updo f p o.dst v a3
  have wo : ∀ f v, wantF ops (updo f p.dst v) o = wantF ops f o := fun f v => want_updo f o p.dst v a1
  have cm : ∀ f v u, updo (updo f p.dst v) o.dst u = updo (updo f o.dst u) p.dst v := fun f v u => updo_comm f v u a2
  rintro ⟨D, F, w, a, ag, s⟩
  have hb := h ⟨D, F, w, a, ag, s⟩
  obtain ⟨H, sH, _⟩ := hf w F s
  -- o, with whatever p left in its slot, where p leaves the memory as it was
  have go : ∀ (vp : Value) (hback : ∀ u L, MixE P n ops kd Lb Le Z l (updo (updo f p.dst vp) o.dst u) L → MixE P n ops kd Lb Le Z ((k, p) :: l) (updo f o.dst u) L),
      MixE P n ops kd Lb Le Z ((i, o) :: l) (updo f p.dst vp) L → (if wantF ops f o = true then
        if kd i = 0 then ∃ v, Val P o f Lb v ∧ MixE P n ops kd Lb Le Z ((k, p) :: l) (updo f o.dst v) L
        else if kd i = 1 then ∃ v, Val P o f Le v ∧ MixE P n ops kd Lb Le Z ((k, p) :: l) (updo f o.dst v) L
        else ∀ F w0 w, Rest w0 w → Sats w L F → LW P o f w fun v w' => ∃ L2, Fac Lb L2 ∧ Rest w0 w' ∧ Sats w' L2 F ∧ MixE P n ops kd Lb Le Z ((k, p) :: l) (updo f o.dst v) L2
      else MixE P n ops kd Lb Le Z ((k, p) :: l) (updo f o.dst undef) L) := fun vp hback hm => by
    obtain ⟨a', ag'⟩ := agree_updo ag hdp vp
    have hb2 := hm ⟨D, F, w, a', ag', s⟩
    rw [wo] at hb2
    split
    · rename_i hw
      rw [if_pos hw] at hb2
      split
      · rename_i hk; rw [if_pos hk] at hb2
        obtain ⟨v, hv, hm⟩ := hb2
        exact ⟨v, (Val.congr (eo _ _)).1 hv, hback _ _ hm⟩
      · rename_i hk; rw [if_neg hk] at hb2
        split
        · rename_i hk2; rw [if_pos hk2] at hb2
          obtain ⟨v, hv, hm⟩ := hb2
          exact ⟨v, (Val.congr (eo _ _)).1 hv, hback _ _ hm⟩
        · rename_i hk2; rw [if_neg hk2] at hb2
          intro F' w0 w' r s'
          have := hb2 F' w0 w' r s'
          rw [LW.congr (eo _ _)] at this
          exact this.mono fun v w' ⟨L2, h1, h2, h3, h4⟩ => ⟨L2, h1, h2, h3, hback _ _ h4⟩
    · rename_i hw
      rw [if_neg hw] at hb2
      exact hback _ _ hb2
  by_cases hwp : wantF ops f p = true
  case neg =>
    rw [if_neg hwp] at hb
    exact go undef (fun u L hm _ => by rw [wp, if_neg hwp, ← cm]; exact hm) hb
  case pos =>
    rw [if_pos hwp] at hb
    by_cases k0 : kd k = 0
    · rw [if_pos k0] at hb
      obtain ⟨vp, hvp, hb⟩ := hb
      exact go vp (fun u L hm _ => by
        rw [wp, if_pos hwp, if_pos k0]
        exact ⟨vp, (Val.congr (ep _ _)).2 hvp, by rw [← cm]; exact hm⟩) hb
    · rw [if_neg k0] at hb
      by_cases k1 : kd k = 1
      · rw [if_pos k1] at hb
        obtain ⟨vp, hvp, hb⟩ := hb
        exact go vp (fun u L hm _ => by
          rw [wp, if_pos hwp, if_neg k0, if_pos k1]
          exact ⟨vp, (Val.congr (ep _ _)).2 hvp, by rw [← cm]; exact hm⟩) hb
      · -- p acts: o only reads what stays
        have hk : kd i = 0 := by rcases hkk with x | x | x <;> first | exact x | exact absurd x k0 | exact absurd x.2 k1
        rw [if_neg k1] at hb
        obtain ⟨u1, w1, L1, hf1, hr1, s1, hm1⟩ := (hb F w w (Rest.refl w) s).some
        obtain ⟨a', ag'⟩ := agree_updo ag hdp u1
        have hb2 := hm1 ⟨D, F, w1, a', ag', s1⟩
        rw [wo] at hb2
        split
        · rename_i hw
          rw [if_pos hw, if_pos hk] at hb2
          try rw [if_pos hk]
          obtain ⟨v, hv, _⟩ := hb2
          have hv' := (Val.congr (eo _ _)).1 hv
          refine ⟨v, hv', fun W => ?_⟩
          rw [wp, if_pos hwp, if_neg k0, if_neg k1]
          intro F' w0' w' r' s'
          rw [LW.congr (ep _ _)]
          refine (hb F' w0' w' r' s').mono fun u w2 ⟨L2, h1, h2, h3, h4⟩ => ⟨L2, h1, h2, h3, MixE.wit ?_⟩
          rintro ⟨D', F2, w3, a2, ag2, s2⟩
          obtain ⟨a3, ag3⟩ := agree_updo ag hdp u
          have hb3 := h4 ⟨D, F2, w3, a3, ag3, s2⟩
          rw [wo, if_pos hw, if_pos hk] at hb3
          obtain ⟨v2, hv2, hm⟩ := hb3
          obtain ⟨H', sH', _⟩ := h1 w3 F2 s2
          rw [← cm, Val.unique hv' ((Val.congr (eo _ _)).1 hv2) sH']
          exact hm
        · rename_i hw
          rw [if_neg hw] at hb2
          intro W
          rw [wp, if_pos hwp, if_neg k0, if_neg k1]
          intro F' w0' w' r' s'
          rw [LW.congr (ep _ _)]
          refine (hb F' w0' w' r' s').mono fun u w2 ⟨L2, h1, h2, h3, h4⟩ => ⟨L2, h1, h2, h3, MixE.wit ?_⟩
          rintro ⟨D', F2, w3, a2, ag2, s2⟩
          obtain ⟨a3, ag3⟩ := agree_updo ag hdp u
          have hb3 := h4 ⟨D, F2, w3, a3, ag3, s2⟩
          rw [wo, if_neg hw] at hb3
          rw [← cm]
          exact hb3
theorem MixE.front {i : Nat} {o : Oper} {l2 : List (Nat × Oper)} (hso : ∀ cs b, o.op ≠ .select cs b) (hdo : dstOk n o.dst = true) : ∀ (l1 : List (Nat × Oper)), (∀ x ∈ l1, (∀ cs b, x.2.op ≠ .select cs b) ∧ x.2.apart ops o = true ∧ dstOk n x.2.dst = true ∧ (kd i = 0 ∨ kd x.1 = 0 ∨ (kd i = 1 ∧ kd x.1 = 1))) →
    ∀ {f : Nat → Value} {L : List Assn}, Fac Lb L → MixE P n ops kd Lb Le Z (l1 ++ (i, o) :: l2) f L → MixE P n ops kd Lb Le Z ((i, o) :: (l1 ++ l2)) f L
  | [], _, f, L, _, h => h
  | (k, p) :: l1, hall, f, L, hf, h => by
    obtain ⟨h1, h2, h3, h4⟩ := hall (k, p) (List.mem_cons_self ..)
    refine MixE.swap h1 hso h2 h3 hdo h4 hf ?_
    exact MixE.tail (fun f L hf h => MixE.front hso hdo l1 (fun x hx => hall x (List.mem_cons_of_mem _ hx)) hf h) hf h
theorem wpAny_mixE {Q : Post} {D : List Deferred} {F : Frag} {w0 : World} {f0 : Nat → Value} {ws : Nat → Bool} (hok : mixOk n ops kd m = true) (hel : earlyOk ops kd m = true) (hws : ∀ d, d ∈ writesL ops.toList → ws d = true) :
    ∀ (c : Nat) (l : List (Nat × Oper)) (listed : Array Bool) (a : Act) (w : World) (f : Nat → Value) (L : List Assn), l.length = c → Inv ops m listed l → Here D n F w0 f0 ws a w f L → Fac Lb L → ((∃ x ∈ l, kd x.1 = 1) → Fac Le L) →
      MixE P n ops kd Lb Le (fun f L => ExL P n ops (ops.toList.drop m) Q f L) l f L → wpAny P .any ops (Lift D n F w0 f0 ws Q) (l.length + (ops.size - m)) listed a w := by
  have hk0 := hok
  simp only [mixOk, Bool.and_eq_true, List.all_eq_true, List.mem_range, Bool.or_eq_true, Bool.not_eq_true'] at hk0
  obtain ⟨⟨⟨⟨⟨c1, c2⟩, c3⟩, c4⟩, c5⟩, c6⟩ := hk0
  have hm := Nat.le_of_ble_eq_true c6
  have hsel : ∀ (j : Nat) (o : Oper), ops[j]? = some o → ∀ cs b, o.op ≠ .select cs b := fun j o h cs b => Region.noSelect_spec c1 j o cs b h
  have hlex : ∀ j o, ops[j]? = some o → ∀ e ∈ o.after, Region.binds .any e = true → e.on < j := fun j o ho e he hb => by
    have := c2 j (Array.getElem?_eq_some_iff.1 ho).1
    rw [ho] at this
    simp only [Bool.and_eq_true] at this
    have h1 := this.1
    rw [← Array.all_toList, List.all_eq_true] at h1
    have h2 := h1 e (Array.mem_toList_iff.2 he)
    rw [hb] at h2
    simp at h2
    exact h2
  have hdst : ∀ (j : Nat) (o : Oper), ops[j]? = some o → dstOk n o.dst = true := fun j o ho => by
    have := c2 j (Array.getElem?_eq_some_iff.1 ho).1
    rw [ho] at this
    simp only [Bool.and_eq_true] at this
    exact this.2
  have hwr : ∀ (j : Nat) (o : Oper), ops[j]? = some o → ∀ t, o.dst = some t → ws t = true := fun j o ho t ht =>
    hws t (mem_writesL_iff.2 ⟨o, Array.mem_toList_iff.2 (Array.mem_of_getElem? ho), ht⟩)
  have hloud : ∀ j, j < m → loudK (kd j) = true → ∀ k, k < j → kd k = 0 ∨ waits ops 4 j k = true ∨ ∃ x, x < j ∧ k < x ∧ loudK (kd x) = true := fun j hj hl k hk => by
    rcases c4 j hj with h | h
    · rw [hl] at h; cases h
    · rcases h k hk with (h | h) | h
      · exact .inl (Nat.eq_of_beq_eq_true h)
      · exact .inr (.inl h)
      · simp only [List.any_eq_true, List.mem_range, Bool.and_eq_true] at h
        obtain ⟨x, hx, hkx, hlx⟩ := h
        exact .inr (.inr ⟨x, hx, by simpa using hkx, hlx⟩)
  have htail1 : m < ops.size → ∀ k, k < m → edgeOn ops m k = true := fun h2 k hk => by
    rcases c5 m h2 with h | h
    · have := Nat.le_of_ble_eq_true h; omega
    · rw [Nat.beq_refl] at h
      exact List.all_eq_true.1 h k (List.mem_range.2 hk)
  have htail : ∀ j, m < j → j < ops.size → edgeOn ops j (j - 1) = true := fun j h1 h2 => by
    rcases c5 j h2 with h | h
    · have := Nat.le_of_ble_eq_true h; omega
    · have : Nat.beq j m = false := by cases hq : Nat.beq j m with | false => rfl | true => (have := Nat.eq_of_beq_eq_true hq; omega)
      rw [this] at h
      exact h
  have hearly : ∀ j, j < m → loudK (kd j) = true → ∀ k, k < m → kd k = 1 → k < j := fun j hj hl k hk h1 => by
    unfold earlyOk at hel
    simp only [List.all_eq_true, List.mem_range, Bool.or_eq_true, Bool.not_eq_true'] at hel
    rcases hel j hj with h | h
    · rw [hl] at h; cases h
    · rcases h k hk with h | h
      · have : Nat.beq (kd k) 1 = true := by rw [h1]; rfl
        rw [this] at h; cases h
      · simpa using h
  intro c
  induction c with
  | zero =>
    intro l listed a w f L hc I H hf hE hM
    have hl : l = [] := List.eq_nil_of_length_eq_zero hc
    subst hl
    obtain ⟨L2, hs, hx⟩ := hM ⟨D, F, w, a, H.2.1, H.2.2.1⟩
    have hw := hx D F w0 f0 ws a w ⟨H.1, H.2.1, hs w F H.2.2.1, H.2.2.2⟩ (fun d hd => by
      obtain ⟨o, ho, hod⟩ := mem_writesL_iff.1 hd
      exact hws d (mem_writesL_iff.2 ⟨o, List.mem_of_mem_drop ho, hod⟩))
    have := wpAny_tail (P := P) (ops := ops) (Q := Lift D n F w0 f0 ws Q) (ops.toList.drop m) m listed a w (fun j => by simp) (by simp; omega) I.size (fun i hi => by
      cases hb : listed.getD i false with
      | true => rfl
      | false =>
        have hit : listed.getD i true = false := by
          have hs2 : i < listed.size := by rw [I.size]; omega
          simp [Array.getD, hs2] at hb ⊢; exact hb
        obtain ⟨o, ho⟩ := I.all i hi hit
        cases ho) I.back hlex htail hw
    simpa using this
  | succ c ih =>
    intro l listed a w f L hc I H hf hE hM
    obtain ⟨x0, lt, rfl⟩ : ∃ x0 lt, l = x0 :: lt := by
      cases l with
      | nil => simp at hc
      | cons x0 lt => exact ⟨x0, lt, rfl⟩
    obtain ⟨h01, h02, h03⟩ := I.mem x0 (List.mem_cons_self ..)
    have hlow : ∀ k, k < x0.1 → listed.getD k false = true := fun k hk => by
      cases hb : listed.getD k false with
      | true => rfl
      | false =>
        have hs2 : k < listed.size := by rw [I.size]; omega
        have hit : listed.getD k true = false := by simp [Array.getD, hs2] at hb ⊢; exact hb
        obtain ⟨o, ho⟩ := I.all k (by omega) hit
        rcases List.mem_cons.1 ho with e | e
        · rw [← e] at hk; simp at hk
        · have := (List.pairwise_cons.1 I.inc).1 _ e
          simp at this; omega
    have hr0 : x0.1 ∈ Region.ready .any ops listed := mem_ready.2 ⟨h03, x0.2, h01, fun e he hb => hlow _ (hlex _ _ h01 e he hb)⟩
    have hlen : (x0 :: lt).length + (ops.size - m) = lt.length + (ops.size - m) + 1 := by simp; omega
    rw [hlen]
    refine ⟨fun h0 => (by rw [h0] at hr0; cases hr0), fun i hi => ?_⟩
    obtain ⟨hli, o, ho, hall⟩ := mem_ready.1 hi
    have hisz := (Array.getElem?_eq_some_iff.1 ho).1
    have him : i < m := by
      rcases Nat.lt_or_ge i m with h | h
      · exact h
      · exfalso
        rcases Nat.eq_or_lt_of_le h with h | h
        · subst h
          obtain ⟨o2, ho2, e, he, hbn, hek⟩ := edgeOn_spec.1 (htail1 hisz x0.1 (by omega))
          rw [ho] at ho2; cases ho2
          have h1 := hall e he hbn
          rw [hek] at h1
          rw [getD_ft h1] at h03
          cases h03
        · obtain ⟨o2, ho2, e, he, hbn, hek⟩ := edgeOn_spec.1 (htail i h hisz)
          rw [ho] at ho2; cases ho2
          have h1 := hall e he hbn
          rw [hek] at h1
          have := I.back (i - 1) (by omega) (by omega)
          rw [getD_ft h1] at this
          cases this
    obtain ⟨o', hmem⟩ := I.all i him hli
    obtain ⟨hoo, _, _⟩ := I.mem _ hmem
    simp only at hoo
    rw [ho] at hoo
    cases hoo
    obtain ⟨l1, l2, hl⟩ := mem_split_l hmem
    rw [hl] at I hM hc hE
    have hinc := I.inc
    rw [List.pairwise_append, List.pairwise_cons] at hinc
    have hM' := MixE.front (hsel i o ho) (hdst i o ho) l1 (fun y hy => by
      obtain ⟨y1, y2, y3⟩ := I.mem y (List.mem_append_left _ hy)
      have hlt : y.1 < i := hinc.2.2 y hy (i, o) (List.mem_cons_self ..)
      have hne : edgeOn ops i y.1 = false := by
        cases hb : edgeOn ops i y.1 with
        | false => rfl
        | true =>
          obtain ⟨o2, ho2, e, he, hbn, hek⟩ := edgeOn_spec.1 hb
          rw [ho] at ho2; cases ho2
          have h1 := hall e he hbn
          rw [hek] at h1
          rw [getD_ft h1] at y3
          cases y3
      refine ⟨hsel _ _ y1, ?_, hdst _ _ y1, ?_⟩
      · have := c3 i him y.1 hlt
        rw [hne] at this
        rcases this with h | h
        · cases h
        · unfold apartAt at h
          rw [y1, ho] at h
          exact h
      · by_cases k0 : kd y.1 = 0
        · exact .inr (.inl k0)
        · cases hlk : loudK (kd i) with
          | false =>
            unfold loudK at hlk
            split at hlk
            · rename_i h; exact .inl h
            · rename_i h
              refine .inr (.inr ⟨h, ?_⟩)
              refine Classical.byContradiction fun hy1 => ?_
              have hyl : loudK (kd y.1) = true := by
                unfold loudK
                split
                · rename_i h2; exact absurd h2 k0
                · rename_i h2; exact absurd h2 hy1
                · rfl
              have := hearly y.1 y2 hyl i him h
              omega
            · cases hlk
          | true =>
            have := loud_listed I hloud (i - y.1) i y.1 (Nat.le_refl _) hlt him hlk k0 (.inr hi)
            rw [getD_ft this] at y3
            cases y3) hf hM
    have I' := I.step hi
    have hlc : (l1 ++ l2).length = c := by simp at hc ⊢; omega
    have hlt2 : lt.length = (l1 ++ l2).length := by
      have : (x0 :: lt).length = (l1 ++ (i, o) :: l2).length := by rw [hl]
      simp at this ⊢; omega
    rw [hlt2]
    have hb := hM' ⟨D, F, w, a, H.2.1, H.2.2.1⟩
    have hwant : Region.wanted o (yielded ops a.tmps) = wantF ops f o := by rw [H.2.1.yield ops]; rfl
    unfold wpOp
    rw [ho]
    simp only
    rw [hwant]
    have next : ∀ (v : Value) (w' : World) (L' : List Assn), Rest w w' → Sats w' L' F → Fac Lb L' → ((∃ x ∈ l1 ++ l2, kd x.1 = 1) → Fac Le L') → MixE P n ops kd Lb Le (fun f L => ExL P n ops (ops.toList.drop m) Q f L) (l1 ++ l2) (updo f o.dst v) L' →
        wpAny P .any ops (Lift D n F w0 f0 ws Q) ((l1 ++ l2).length + (ops.size - m)) (listed.setIfInBounds i true) (a.put o.dst v) w' := fun v w' L' hr hs hf' he' hm' =>
      ih (l1 ++ l2) _ _ w' _ L' hlc I' (H.puto hr hs (hdst i o ho) (hwr i o ho) v) hf' he' hm'
    have hE2 : (∃ x ∈ l1 ++ l2, kd x.1 = 1) → Fac Le L := fun ⟨x, hx, h1⟩ => hE ⟨x, by
      rcases List.mem_append.1 hx with hx | hx
      · exact List.mem_append_left _ hx
      · exact List.mem_append_right _ (List.mem_cons_of_mem _ hx), h1⟩
    split
    · rename_i hw
      rw [if_pos hw] at hb
      refine .inl ?_
      unfold Oper.wp
      rw [H.2.1.eval]
      by_cases k0 : kd i = 0
      · rw [if_pos k0] at hb
        obtain ⟨v, hv, hm'⟩ := hb
        obtain ⟨HH, sH, hback⟩ := hf w F H.2.2.1
        rw [hv HH w sH]
        exact next v w L (Rest.refl w) H.2.2.1 hf hE2 hm'
      · rw [if_neg k0] at hb
        by_cases k1 : kd i = 1
        · rw [if_pos k1] at hb
          obtain ⟨v, hv, hm'⟩ := hb
          obtain ⟨HH, sH, hback⟩ := hE ⟨(i, o), by simp, k1⟩ w F H.2.2.1
          rw [hv HH w sH]
          exact next v w L (Rest.refl w) H.2.2.1 hf hE2 hm'
        · rw [if_neg k1] at hb
          have hli2 : loudK (kd i) = true := by
            unfold loudK
            split
            · rename_i h2; exact absurd h2 k0
            · rename_i h2; exact absurd h2 k1
            · rfl
          have hno : ¬ ∃ x ∈ l1 ++ l2, kd x.1 = 1 := fun ⟨x, hx, h1⟩ => by
            obtain ⟨_, x2, x3⟩ := I'.mem x hx
            have hxi := hearly i him hli2 x.1 x2 h1
            have := loud_listed I hloud (i - x.1) i x.1 (Nat.le_refl _) hxi him hli2 (by rw [h1]; decide) (.inr hi)
            rw [Go.getD_set_ne true (by omega)] at x3
            rw [getD_ft this] at x3
            cases x3
          have hlw := hb F w0 w H.1 H.2.2.1
          have fin : ∀ v w', (∃ L2, Fac Lb L2 ∧ Rest w0 w' ∧ Sats w' L2 F ∧ MixE P n ops kd Lb Le (fun f L => ExL P n ops (ops.toList.drop m) Q f L) (l1 ++ l2) (updo f o.dst v) L2) →
              wpAny P .any ops (Lift D n F w0 f0 ws Q) ((l1 ++ l2).length + (ops.size - m)) (listed.setIfInBounds i true) (a.put o.dst v) w' := by
            rintro v w' ⟨L2, h1, h2, h3, h4⟩
            have hp := Here.puto (w' := w) H (Rest.refl w) H.2.2.1 (hdst i o ho) (hwr i o ho) v
            exact ih (l1 ++ l2) _ _ w' _ L2 hlc I' ⟨h2, hp.2.1, h3, hp.2.2.2⟩ h1 (fun h => (hno h).elim) h4
          unfold LW at hlw
          generalize (execOp (evalF f) o).run P w = r at hlw ⊢
          cases r with
          | halt x w' => exact hlw.elim
          | ok nx w' =>
            cases nx with
            | value v => exact fin v w' hlw
            | skip => exact fin undef w' hlw
            | enter k args =>
              show Calls P k args w' _
              exact Calls.mono hlw fun e w2 ⟨v, he, hv⟩ => by subst he; exact fin v w2 hv
            | row r args =>
              show Rows P r args w' _
              exact Rows.mono hlw fun v w2 hv => fin v w2 hv
            | _ => exact hlw.elim
    · rename_i hw
      rw [if_neg hw] at hb
      exact next undef w L (Rest.refl w) H.2.2.1 hf hE2 hb
/-- ONE WALK OF A REGION THAT DRAWS ITS ORDER: the first m operations in the words of Mix, the others one behind the other. -/
theorem Ex.mixE {Q : Post} {f : Nat → Value} {L : List Assn} {id : Nat} (m : Nat) (kd : Nat → Nat) (Lb Le : List Assn) (hm : P.follows .mixedOrders = true) (hok : mixOk n ops kd m = true) (hel : earlyOk ops kd m = true) (hf : Fac Lb L) (he : Fac Le L)
    (h : MixE P n ops kd Lb Le (fun f L => ExL P n ops (ops.toList.drop m) Q f L) (idx 0 (ops.toList.take m)) f L) : Ex P n (.region id ops true) Q f L := fun D F w0 f0 ws a w H hc => by
  have hk0 := hok
  simp only [mixOk, Bool.and_eq_true] at hk0
  have hms := Nat.le_of_ble_eq_true hk0.2
  refine wp_region_any hm ?_
  have hl : (idx 0 (ops.toList.take m)).length = m := by
    have : ∀ (l : List Oper) k, (idx k l).length = l.length := by
      intro l
      induction l with
      | nil => intro k; rfl
      | cons o l ih => intro k; simp [idx, ih]
    rw [this]; simp; omega
  have := wpAny_mixE (P := P) (Q := Q) (F := F) (w0 := w0) (f0 := f0) (ws := ws) hok hel hc m (idx 0 (ops.toList.take m)) (Array.replicate ops.size false) a w.drew f L hl ⟨idx_inc, ?_, ?_, ?_, by simp, ?_⟩ ⟨H.1, H.2.1, Sats.drew H.2.2.1, H.2.2.2⟩ hf (fun _ => he) h
  · rw [hl, show m + (ops.size - m) = ops.size by omega] at this
    exact this
  · intro x hx
    obtain ⟨h1, h2, h3⟩ := idx_mem hx
    simp at h2 h3
    rw [List.getElem?_take] at h3
    split at h3
    · refine ⟨by simpa using h3, by omega, ?_⟩
      simp [Array.getD]; omega
    · cases h3
  · intro i hi _
    have hs : i < ops.size := by omega
    refine ⟨ops[i], ?_⟩
    have := idx_get (k := 0) (l := ops.toList.take m) (i := i) (o := ops[i]) (by rw [List.getElem?_take, if_pos hi]; simp [hs])
    simpa using this
  · intro i _ hi
    simp [Array.getD, hi]
  · intro x o ho hx
    exfalso
    have hs := (Array.getElem?_eq_some_iff.1 ho).1
    simp [Array.getD, hs] at hx
end
/-! The steps of such a walk. -/
section
variable {P : Program} {n : Nat} {ops : Array Oper} {kd : Nat → Nat} {Lb Le : List Assn} {Z : (Nat → Value) → List Assn → Prop} {f : Nat → Value} {L : List Assn} {i : Nat} {o : Oper} {l : List (Nat × Oper)}
def meEnd (P : Program) (n : Nat) (kd : Nat → Nat) (ops : Array Oper) (Lb Le : List Assn) (Z : (Nat → Value) → List Assn → Prop) (l : List (Nat × Oper)) : Post
  | .normal, f, L => Fac Lb L ∧ MixE P n ops kd Lb Le Z l f L
  | _, _, _ => False
theorem me_nil (h : Z f L) : MixE P n ops kd Lb Le Z [] f L := fun _ => ⟨L, Sub.refl L, h⟩
theorem me_val {v : Value} {d : Nat} (hk : kd i = 0) (hg : o.guard = none) (ho : o.dst = some d) (hv : Val P o f Lb v) (h : MixE P n ops kd Lb Le Z l (upd f d v) L) : MixE P n ops kd Lb Le Z ((i, o) :: l) f L := fun _ => by
  have hw : wantF ops f o = true := wanted_none hg
  rw [if_pos hw, if_pos hk]
  exact ⟨v, hv, by rw [ho]; exact h⟩
theorem me_early {v : Value} {d : Nat} (hk : kd i = 1) (hg : o.guard = none) (ho : o.dst = some d) (hv : Val P o f Le v) (h : MixE P n ops kd Lb Le Z l (upd f d v) L) : MixE P n ops kd Lb Le Z ((i, o) :: l) f L := fun _ => by
  have hw : wantF ops f o = true := wanted_none hg
  rw [if_pos hw, if_neg (by rw [hk]; decide), if_pos hk]
  exact ⟨v, hv, by rw [ho]; exact h⟩
/-- An operation that acts: by the steps of a walk of one operation. -/
theorem me_act (hk : loudK (kd i) = true) (hg : o.guard = none) (hdo : dstOk n o.dst = true) (h : ExL P n ops [o] (meEnd P n kd ops Lb Le Z l) f L) : MixE P n ops kd Lb Le Z ((i, o) :: l) f L := fun ⟨D, _, _, a, ag, _⟩ => by
  have hw : wantF ops f o = true := wanted_none hg
  have k0 : kd i ≠ 0 := fun e => by rw [e] at hk; simp [loudK] at hk
  have k1 : kd i ≠ 1 := fun e => by rw [e] at hk; simp [loudK] at hk
  rw [if_pos hw, if_neg k0, if_neg k1]
  intro F w0 w r s
  have h1 := h D F w0 f (fun _ => true) a w ⟨r, ag, s, fun t ht => by cases ht⟩ (fun _ _ => rfl)
  unfold wpList at h1
  rw [if_pos (wanted_none hg)] at h1
  have fin : ∀ (a2 : Act) (w2 : World), Lift D n F w0 f (fun _ => true) (meEnd P n kd ops Lb Le Z l) .normal a2 w2 → ∃ f2 L2, Agree D n a2 f2 ∧ Rest w0 w2 ∧ Sats w2 L2 F ∧ Fac Lb L2 ∧ MixE P n ops kd Lb Le Z l f2 L2 := fun a2 w2 ⟨f2, L2, ⟨r2, ag2, s2, _⟩, q1, q2⟩ => ⟨f2, L2, ag2, r2, s2, q1, q2⟩
  have same : ∀ (v : Value) (f2 : Nat → Value), Agree D n (a.put o.dst v) f2 → f2 = updo f o.dst v := fun v f2 ag2 => by
    funext t
    rw [← ag2.2.2 t, (ag.puto hdo v).2.2 t]
  have fin2 : ∀ (v : Value) (w2 : World), Lift D n F w0 f (fun _ => true) (meEnd P n kd ops Lb Le Z l) .normal (a.put o.dst v) w2 → ∃ L2, Fac Lb L2 ∧ Rest w0 w2 ∧ Sats w2 L2 F ∧ MixE P n ops kd Lb Le Z l (updo f o.dst v) L2 := fun v w2 hl => by
    obtain ⟨f2, L2, ag2, r2, s2, hf2, hm2⟩ := fin _ _ hl
    rw [same v f2 ag2] at hm2
    exact ⟨L2, hf2, r2, s2, hm2⟩
  rcases h1 with h1 | ⟨_, a2, w2, _, _, _, hq⟩
  · unfold Oper.wp at h1
    rw [ag.eval] at h1
    unfold LW
    generalize (execOp (evalF f) o).run P w = rr at h1 ⊢
    cases rr with
    | halt x w' =>
      cases x with
      | panic v => obtain ⟨_, _, _, hq⟩ := h1; exact hq.elim
      | _ => exact h1.elim
    | ok nx w' =>
      cases nx with
      | value v => exact fin2 v w' h1
      | skip => exact fin2 undef w' h1
      | defer dd =>
        obtain ⟨f2, L2, hh, _⟩ := (show Lift D n F w0 f (fun _ => true) (meEnd P n kd ops Lb Le Z l) .normal _ _ from h1)
        have := hh.2.1.1
        have e2 := ag.1
        cases hd : o.dst <;> simp [Act.put, hd, e2] at this
      | enter k args =>
        show Calls P k args w' _
        refine Calls.mono h1 fun e w2 he => ?_
        cases e with
        | returned v => exact ⟨v, rfl, fin2 v w2 he⟩
        | panicked c => obtain ⟨_, _, _, hq⟩ := he; exact hq.elim
        | outgrown => obtain ⟨_, _, _, _, _, hq⟩ := he; exact hq.elim
      | row r args =>
        show Rows P r args w' _
        exact Rows.mono h1 fun v w2 hv => fin2 v w2 hv
      | _ => exact h1.elim
  · exact hq.elim
theorem meEnd_n (hf : Fac Lb L) (h : MixE P n ops kd Lb Le Z l f L) : meEnd P n kd ops Lb Le Z l .normal f L := ⟨hf, h⟩
def kdE (is : List Nat) (ops : Array Oper) (i : Nat) : Nat := match is.any (Nat.beq i) with
  | true => 1
  | false => kdOf ops i
theorem Ex.mixEs {Q : Post} {id : Nat} (m : Nat) (is : List Nat) (Lb : List Assn) (hm : P.follows .mixedOrders = true) (hok : mixOk n ops (kdE is ops) m = true) (hel : earlyOk ops (kdE is ops) m = true) (hf : Fac Lb L)
    (h : MixE P n ops (kdE is ops) Lb L (fun f L => ExL P n ops (ops.toList.drop m) Q f L) (idx 0 (ops.toList.take m)) f L) : Ex P n (.region id ops true) Q f L :=
  Ex.mixE m _ Lb L hm hok hel hf (Fac.refl L) h
end
end Go.Proofs.Ytkcpgdkchglhhaa
