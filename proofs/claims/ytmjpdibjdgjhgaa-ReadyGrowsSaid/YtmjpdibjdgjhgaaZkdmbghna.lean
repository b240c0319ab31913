/- Several texts, one behind the other; each says in its head what it proves. No condition. -/
import Derived.Test.YtmjpdibjdgjhgaaZmjdldkoj
import Derived.Test.YtmjpdibjdgjhgaaZpkcmplna
import Derived.Test.YtmjpdibjdgjhgaaZfdfbpgih
import Derived.Test.YtmjpdibjdgjhgaaZppkilocj
import Derived.Test.YtmjpdibjdgjhgaaZelpbgfkl
import Derived.Test.YtmjpdibjdgjhgaaZfhkbfllp
import Derived.Test.YtmjpdibjdgjhgaaZieodhbgd
/- ReadyGrows, walked. No condition. -/
namespace Go.Proofs.Ytmjpdibjdgjhgaa
open Go.RowKit
set_option linter.unusedSimpArgs false
set_option linter.unusedVariables false
/-- No two of a past have one stamp. -/
theorem stamp_ne {w : List Ev} (hw : GoodP w) {a b : Ev} (ha : a ∈ w) (hb : b ∈ w) (hne : a ≠ b) : ¬ (a.h = b.h ∧ a.r = b.r) := by
  rintro ⟨hh, hr⟩
  have key : ∀ {a b : Ev}, a ∈ w → b ∈ w → a.h = b.h → a.r = b.r → ¬ a.n < b.n := by
    intro a b ha hb hh hr hlt
    have hya := hw.right.may a ha
    have hyb := hw.right.may b hb
    have h1 : b.c.has a.r a.n = true := (Clk.has_iff _ _ _).2 ⟨hya.r.1, hya.r.2, hya.n.1, by rw [hr, hyb.own]; omega⟩
    have := hw.right.lt hb ha h1
    omega
  have h1 := key ha hb hh hr
  have h2 := key hb ha hh.symm hr.symm
  refine hne (hw.right.dst.same ha hb ?_)
  simp only [Ev.mk_, Mk.mk.injEq]
  omega
theorem stamp_uniq {w : List Ev} (hw : GoodP w) : ∀ x ∈ w, ∀ y ∈ w, stLt x y = false → stLt y x = false → x = y := fun x hx y hy h1 h2 => by
  refine Classical.byContradiction fun hne => stamp_ne hw hx hy hne ?_
  rw [stLt_f] at h1 h2
  omega
theorem clockP_I {l : List Ev} (h : l.length ≤ 1000000) : (clockP l).I := fun i hi => by
  have := clockP_bd l hi
  unfold I64
  omega
theorem Dlv.closed {w log : List Ev} (hw : RightQ w) (h : Dlv w log) : ∀ e ∈ w, e ∈ log → ∀ a ∈ w, e.c.has a.r a.n = true → a ∈ log := fun e _ he a ha hh => by
  obtain ⟨l1, l2, rfl⟩ := List.append_of_mem he
  obtain ⟨b, hb, e1⟩ := mem_marks.1 (h.ord l1 e l2 rfl _ _ hh)
  have hbl : b ∈ l1 ++ e :: l2 := List.mem_append_left _ hb
  have := hw.dst.same (h.sub b hbl) ha e1
  subst this
  exact hbl
theorem done_mem {w X A B : List Ev} {c N : Clk} (hw : RightQ w) (hX : ∀ e ∈ X, e ∈ w) (hA : ∀ e ∈ A, e ∈ w) (hD : drain c (freshL c X) = (A, B, N)) : ∀ e ∈ A, e ∈ X := fun e he => by
  have h := drain_cnt e.mk_ c (freshL c X) (fresh_dst c X)
  rw [hD] at h
  simp only at h
  have h1 : 0 < cnt e.mk_ A := List.countP_pos_iff.2 ⟨e, he, decide_eq_true rfl⟩
  have h2 : 0 < cnt e.mk_ (freshL c X) := by omega
  obtain ⟨y, hy, hye⟩ := List.countP_pos_iff.1 h2
  have hyX := freshL_mem c X y hy
  have := hw.dst.same (hX y hyX) (hA e he) (of_decide_eq_true hye)
  subst this
  exact hyX
theorem zero_no (r n : Int) : (clockP ([] : List Ev)).has r n = false := by
  cases h : (clockP ([] : List Ev)).has r n
  · rfl
  · have := has_clockP h
    simp [marks] at this
/-- What is left is what is new above all that was done. -/
theorem left_eq {X A B : List Ev} {c N : Clk} (hD : drain c (freshL c X) = (A, B, N)) : c.le N = true ∧ B = freshL N X := by
  have h1 := drain_left_eq c (freshL c X) (fresh_dst c X) (freshL_has c X)
  have h2 := drain_le c (freshL c X) (fresh_dst c X)
  rw [hD] at h1 h2
  exact ⟨h2, by rw [freshL_above h2]; exact h1⟩
theorem grows {w a b : List Ev} (hw : GoodP w) (ha : ∀ e ∈ a, e ∈ w) (hb : ∀ e ∈ b, e ∈ w) : ∃ one left two rest all,
    drain (clockP []) (freshL (clockP []) a) = (one, left, clockP one) ∧ drain (clockP one) (freshL (clockP one) (left ++ b)) = (two, rest, clockP all) ∧ drain (clockP []) (freshL (clockP []) (a ++ b)) = (all, rest, clockP all) ∧
    sortP (one ++ two) = sortP all ∧ (∀ e ∈ left, e ∈ w) ∧ (one ++ two).length ≤ w.length ∧ all.length ≤ w.length ∧ left.length ≤ w.length ∧ rest.length ≤ w.length := by
  have hab : ∀ e ∈ a ++ b, e ∈ w := fun e he => by
    rcases List.mem_append.1 he with h | h
    · exact ha e h
    · exact hb e h
  obtain ⟨one, left, h1, R1⟩ := rdyP_is hw (Dlv.nil w) ha
  have hlb : ∀ e ∈ left ++ b, e ∈ w := fun e he => by
    rcases List.mem_append.1 he with h | h
    · exact R1.sub e h
    · exact hb e h
  have d1 := R1.dlv
  rw [List.nil_append] at d1 h1
  obtain ⟨two, rest, h2, R2⟩ := rdyP_is hw d1 hlb
  obtain ⟨all, fin, h3, R3⟩ := rdyP_is hw (Dlv.nil w) hab
  have d2 := R2.dlv
  have d3 := R3.dlv
  have m3 := R3.max
  rw [List.nil_append] at d3 h3 m3
  obtain ⟨l1, e1⟩ := left_eq h1
  obtain ⟨l2, e2⟩ := left_eq h2
  obtain ⟨l3, e3⟩ := left_eq h3
  have hone : ∀ e ∈ one, e ∈ a := done_mem hw.right ha d1.sub h1
  have htwo : ∀ e ∈ two, e ∈ left ++ b := done_mem hw.right hlb (fun e he => d2.sub e (List.mem_append_right _ he)) h2
  have hall : ∀ e ∈ all, e ∈ a ++ b := done_mem hw.right hab d3.sub h3
  have hleft : ∀ e ∈ left, e ∈ a := R1.mem
  have hmem : ∀ e, e ∈ one ++ two ↔ e ∈ all := fun e => by
    constructor
    · intro he
      have hew := d2.sub e he
      refine (d3.has_mem hw.right hew).1 (m3 (· ∈ one ++ two) (d2.closed hw.right) (fun x hx hxm => .inl ?_) e hew he)
      rcases List.mem_append.1 hxm with h | h
      · exact List.mem_append_left _ (hone x h)
      · rcases List.mem_append.1 (htwo x h) with h | h
        · exact List.mem_append_left _ (hleft x h)
        · exact List.mem_append_right _ h
    · intro he
      have hew := d3.sub e he
      refine (d2.has_mem hw.right hew).1 (R2.max (· ∈ all) (d3.closed hw.right) (fun x hx hxm => ?_) e hew he)
      rcases List.mem_append.1 (hall x hxm) with h | h
      · cases hh : (clockP one).has x.r x.n
        · left
          refine List.mem_append_left _ ?_
          rw [e1]
          exact fresh_of hw.right.dst ha h hh
        · exact .inr rfl
      · exact .inl (List.mem_append_right _ h)
  have n2 : (one ++ two).Nodup := d2.dst.imp fun h e => h (by rw [e])
  have n3 : all.Nodup := d3.dst.imp fun h e => h (by rw [e])
  have hp : (one ++ two).Perm all := (List.perm_ext_iff_of_nodup n2 n3).2 hmem
  have hc : clockP (one ++ two) = clockP all := clockP_congr (perm_marks hp)
  rw [hc] at h2 e2 l2
  have hD : freshL (clockP all) left = freshL (clockP all) a := by
    rw [freshL_above l2, freshL_above l2 a, freshL_id R1.dst (fun e he => by have := R1.no e he; rwa [List.nil_append] at this), ← e1]
  have hrest : rest = fin := by
    rw [e2, e3]
    unfold freshL at hD ⊢
    rw [List.foldl_append, List.foldl_append, hD]
  subst hrest
  have hl3 := sub_len d3.dst d3.sub
  refine ⟨one, left, two, rest, all, h1, h2, h3, sortP_uniq hp fun x hx y hy => stamp_uniq hw x (d2.sub x hx) y (d2.sub y hy), R1.sub, ?_, hl3, sub_len R1.dst R1.sub, sub_len R3.dst R3.sub⟩
  rw [hp.length_eq]
  exact hl3
set_option maxRecDepth 20000 attribute [local irreducible] Ex ExL Fn thn inb rnd fin meet Tab Mix mxEnd Val Sats RdT Rd RowT Row Blk Sub Fac ResV RVal Evs subs subs3 Hid Capd
theorem short12_F (v0 : Value) (l : List Ch) (M : List Assn) (hr : RdT M v0 l) : Fn Try.prog 21 #[v0] M fun v L' => RdT M v (l.take 40) ∧ L' = M := by
  refine Fn.of_ex Try.func21 rfl Try.ntmps21 rfl ?_
  (repeat' (first | refine ExL.val rJ rJ rJ rV ?_ | (first | refine Ex.seq ?_ | refine Ex.region ?_ | refine ExL.nil ?_ | refine thn_n ?_ | refine Ex.cond_t rJ ?_ | refine Ex.cond_f rJ ?_ | refine Ex.skip ?_ | refine Ex.block ?_ | refine Ex.exit ?_ | refine Ex.ret ?_ | refine thn_exit ?_ | refine thn_ret ?_ | refine inb_n ?_ | refine inb_hit rJ ?_ | refine inb_miss rJ ?_ | refine inb_ret ?_ | refine rnd_exit ?_ | refine rnd_ret ?_ | refine meet_ret ?_ | refine meet_exit ?_) | (apply exlGuard; first | refine ExL.gskip rJ rJ rJ rJ rJ rJ ?_ | refine ExL.gtake rJ rJ rJ rJ ?_ | refine ExL.gskipU rJ rJ rJ rJ ?_ | (refine ExL.gsplit rJ rJ rJ (fun h => ?_) (fun h => ?_) <;> try (exfalso; omega))) | (first | refine st_new_ rJ rE (fun g => ?_) | refine st_boxA rJ rJ (fun g => ?_) | refine st_box1 rJ rE rN (fun g => ?_) | (apply exlStore; first | refine st_store1_ _ rJ rK rE rN rJ rJ rE rE ?_ | refine st_storeW_ _ rJ rK rJ rC rJ rJ rJ rE ?_ | refine st_storeR _ rJ rK rJ rE rJ rJ rE ?_ | refine st_storeA_ _ rJ rK rJ rC rJ rJ rJ rE rE ?_ | refine st_storeB _ rJ rJ rO rO rK rJ rO ?_ | refine st_storeG _ rJ rK rE rN rJ rO (fun cs hcs => ?_)) | refine st_slice0 rJ rJ rJ rJ (fun g => ?_) | refine st_slice1T rJ rJ rJ rJ (fun g => ?_) | refine st_makeT rJ rJ rJ rJ rE rJ rO rO (fun v o => ?_) | (apply exlCopy; first | refine st_copyW _ rJ rE rK rE rD rJ rE rJ (fun zs hzs => ?_) | refine st_copyS _ rJ rJ rK rE rD rJ rE rJ rO rO (fun zs hzs => ?_)) | refine st_sliceB rJ rJ rJ rJ rJ rJ rJ rL rE rE rJ (fun g => ?_) | refine st_slice1I rJ rJ rJ rJ rJ rJ (fun g => ?_) | refine st_slice1B rJ rJ rJ rJ rJ rJ rO rO (fun g => ?_) | refine st_slice1S rJ rJ rJ rJ rJ rJ (fun g => ?_) | refine st_slice2B rJ rJ rJ rJ rJ rJ rJ rO rO rO rO (fun g => ?_) | (apply exlConv; first | refine st_bytes rJ rJ rJ rJ rJ rO (fun v o => ?_) | refine st_mark _ rJ rJ rK rJ rJ rJ ?_) | refine st_clear _ (0 : UInt8) rJ rK rJ rJ rJ rJ rJ rO ?_ | refine st_clearT _ rJ rK rO rJ rJ rO rE ?_ | (apply exlAppend; first | refine st_app0 rJ rJ rE rD rJ rE rJ rE rJ rJ rJ rO (fun v o => ?_) | refine st_app _ rJ rE rK rE rD rJ rE rJ rE rJ rJ rJ rO (fun v o => ?_) | refine st_shift _ rJ rJ rJ rK rO rJ rJ rJ rO rO rE ?_)) | (refine Ex.cond_d rJ (fun h => ?_) (fun h => ?_) <;> try (exfalso; omega))))
  (first | refine fin_ret rS ?_ | refine fin_norm rS ?_)
  refine ⟨_, rB, ?_, rfl⟩
  have h : l.take 40 = l.take (min (l.length : Int) 40).toNat := by
    by_cases hl : l.length ≤ 40
    · rw [List.take_of_length_le hl, List.take_of_length_le (by omega)]
    · congr 1; omega
  rw [h]
  exact rD
/-- A past, made of 40 choices at most. -/
theorem made40 {l : List Ch} (hok : ∀ c ∈ l, c.Ok) : ∃ l2, l2 = l.take 40 ∧ l2.length ≤ 40 ∧ (∀ c ∈ l2, c.Ok) ∧ ∃ w, w = makeP l2 ∧ w.length ≤ 40 ∧ (∀ e ∈ w, I64 e.n) ∧ GoodP w := by
  have hl2l : (l.take 40).length ≤ 40 := by rw [List.length_take]; omega
  have hl2o : ∀ c ∈ l.take 40, c.Ok := fun c hc => hok c (List.mem_of_mem_take hc)
  have hmk := makeS_ok _ hl2o
  refine ⟨_, rfl, hl2l, hl2o, _, rfl, ?_, fun e he => ?_, makeP_good _ (by omega) hl2o⟩
  · have := hmk.len; unfold makeP; omega
  · have := hmk.n e he
    unfold I64
    omega
theorem drain_R (c : Clk) (v0 : Value) (l A B : List Ev) (N : Clk) (M : List Assn) (hr : RdT M v0 l) (hl : l.length ≤ 1000000) (hI : ∀ e ∈ l, I64 e.n) (hc : c.I) (hD : drain c (freshL c l) = (A, B, N)) : Fn Try.prog 14 #[c.val, v0] M
    fun v L' => ∃ v1 v2 : Value, v1.oneCell' = true ∧ v2.oneCell' = true ∧ v = .tuple #[v1, v2, .agg (Rep.cells N).toArray] ∧ L' = Evs_ v1 A :: Evs_ v2 B :: M := by
  have := drain_F c v0 l M hr hl hI hc
  rw [hD] at this
  exact this
@[reducible] def StG (va : Value) (a : List Ev) (vb : Value) (b : List Ev) (v8 : Value) (w : List Ev) (W : World) : List Assn := Evs_ va a :: Evs_ vb b :: Evs_ v8 w :: [Base W]
theorem pick_mem {w a : List Ev} (ha : ∀ e ∈ a, e ∈ w) {k : Nat} (h : k < w.length) : ∀ e ∈ a ++ [w[k]'h], e ∈ w := fun e he => by
  rcases List.mem_append.1 he with he | he
  · exact ha e he
  · simp only [List.mem_singleton] at he
    rw [he]
    exact List.getElem_mem _
set_option maxHeartbeats 8000000 in
theorem readyGrows_fn (va vb vc : Value) (l : List Ch) (px py : List UInt8) (W : World) (hl : l.length ≤ 140737488355328) (hr : RdT [Base W] va l) (hok : ∀ c ∈ l, c.Ok) (hxl : px.length ≤ 140737488355328) (hxr : RdT [Base W] vb px) (hyl : py.length ≤ 140737488355328) (hyr : RdT [Base W] vc py) :
    Fn Try.prog 11 #[va, vb, vc] [Base W] fun v L' => v = .bool true ∧ L' = [Base W] := by
  obtain ⟨l2, hl2, hl2l, hl2o, w, hwm, hwl, hwn, hw⟩ := made40 hok
  refine Fn.of_ex Try.func11 rfl Try.ntmps11 rfl ?_
  (repeat' (first | refine ExL.val rJ rJ rJ rV ?_ | (first | refine Ex.seq ?_ | refine Ex.region ?_ | refine ExL.nil ?_ | refine thn_n ?_ | refine Ex.cond_t rJ ?_ | refine Ex.cond_f rJ ?_ | refine Ex.skip ?_ | refine Ex.block ?_ | refine Ex.exit ?_ | refine Ex.ret ?_ | refine thn_exit ?_ | refine thn_ret ?_ | refine inb_n ?_ | refine inb_hit rJ ?_ | refine inb_miss rJ ?_ | refine inb_ret ?_ | refine rnd_exit ?_ | refine rnd_ret ?_ | refine meet_ret ?_ | refine meet_exit ?_) | (apply exlGuard; first | refine ExL.gskip rJ rJ rJ rJ rJ rJ ?_ | refine ExL.gtake rJ rJ rJ rJ ?_ | refine ExL.gskipU rJ rJ rJ rJ ?_ | (refine ExL.gsplit rJ rJ rJ (fun h => ?_) (fun h => ?_) <;> try (exfalso; omega))) | (first | refine st_new_ rJ rE (fun g => ?_) | refine st_boxA rJ rJ (fun g => ?_) | refine st_box1 rJ rE rN (fun g => ?_) | (apply exlStore; first | refine st_store1_ _ rJ rK rE rN rJ rJ rE rE ?_ | refine st_storeW_ _ rJ rK rJ rC rJ rJ rJ rE ?_ | refine st_storeR _ rJ rK rJ rE rJ rJ rE ?_ | refine st_storeA_ _ rJ rK rJ rC rJ rJ rJ rE rE ?_ | refine st_storeB _ rJ rJ rO rO rK rJ rO ?_ | refine st_storeG _ rJ rK rE rN rJ rO (fun cs hcs => ?_)) | refine st_slice0 rJ rJ rJ rJ (fun g => ?_) | refine st_slice1T rJ rJ rJ rJ (fun g => ?_) | refine st_makeT rJ rJ rJ rJ rE rJ rO rO (fun v o => ?_) | (apply exlCopy; first | refine st_copyW _ rJ rE rK rE rD rJ rE rJ (fun zs hzs => ?_) | refine st_copyS _ rJ rJ rK rE rD rJ rE rJ rO rO (fun zs hzs => ?_)) | refine st_sliceB rJ rJ rJ rJ rJ rJ rJ rL rE rE rJ (fun g => ?_) | refine st_slice1I rJ rJ rJ rJ rJ rJ (fun g => ?_) | refine st_slice1B rJ rJ rJ rJ rJ rJ rO rO (fun g => ?_) | refine st_slice1S rJ rJ rJ rJ rJ rJ (fun g => ?_) | refine st_slice2B rJ rJ rJ rJ rJ rJ rJ rO rO rO rO (fun g => ?_) | (apply exlConv; first | refine st_bytes rJ rJ rJ rJ rJ rO (fun v o => ?_) | refine st_mark _ rJ rJ rK rJ rJ rJ ?_) | refine st_clear _ (0 : UInt8) rJ rK rJ rJ rJ rJ rJ rO ?_ | refine st_clearT _ rJ rK rO rJ rJ rO rE ?_ | (apply exlAppend; first | refine st_app0 rJ rJ rE rD rJ rE rJ rE rJ rJ rJ rO (fun v o => ?_) | refine st_app _ rJ rE rK rE rD rJ rE rJ rE rJ rJ rJ rO (fun v o => ?_) | refine st_shift _ rJ rJ rJ rK rO rJ rJ rJ rO rO rE ?_)) | (refine Ex.cond_d rJ (fun h => ?_) (fun h => ?_) <;> try (exfalso; omega))))
  (refine st_callIs [] rJ Try.call13 rJ rJ (shown12_fn _) ?_; rintro _ _ ⟨rfl, rfl⟩)
  (repeat' (first | refine ExL.val rJ rJ rJ rV ?_ | (first | refine Ex.seq ?_ | refine Ex.region ?_ | refine ExL.nil ?_ | refine thn_n ?_ | refine Ex.cond_t rJ ?_ | refine Ex.cond_f rJ ?_ | refine Ex.skip ?_ | refine Ex.block ?_ | refine Ex.exit ?_ | refine Ex.ret ?_ | refine thn_exit ?_ | refine thn_ret ?_ | refine inb_n ?_ | refine inb_hit rJ ?_ | refine inb_miss rJ ?_ | refine inb_ret ?_ | refine rnd_exit ?_ | refine rnd_ret ?_ | refine meet_ret ?_ | refine meet_exit ?_) | (apply exlGuard; first | refine ExL.gskip rJ rJ rJ rJ rJ rJ ?_ | refine ExL.gtake rJ rJ rJ rJ ?_ | refine ExL.gskipU rJ rJ rJ rJ ?_ | (refine ExL.gsplit rJ rJ rJ (fun h => ?_) (fun h => ?_) <;> try (exfalso; omega))) | (first | refine st_new_ rJ rE (fun g => ?_) | refine st_boxA rJ rJ (fun g => ?_) | refine st_box1 rJ rE rN (fun g => ?_) | (apply exlStore; first | refine st_store1_ _ rJ rK rE rN rJ rJ rE rE ?_ | refine st_storeW_ _ rJ rK rJ rC rJ rJ rJ rE ?_ | refine st_storeR _ rJ rK rJ rE rJ rJ rE ?_ | refine st_storeA_ _ rJ rK rJ rC rJ rJ rJ rE rE ?_ | refine st_storeB _ rJ rJ rO rO rK rJ rO ?_ | refine st_storeG _ rJ rK rE rN rJ rO (fun cs hcs => ?_)) | refine st_slice0 rJ rJ rJ rJ (fun g => ?_) | refine st_slice1T rJ rJ rJ rJ (fun g => ?_) | refine st_makeT rJ rJ rJ rJ rE rJ rO rO (fun v o => ?_) | (apply exlCopy; first | refine st_copyW _ rJ rE rK rE rD rJ rE rJ (fun zs hzs => ?_) | refine st_copyS _ rJ rJ rK rE rD rJ rE rJ rO rO (fun zs hzs => ?_)) | refine st_sliceB rJ rJ rJ rJ rJ rJ rJ rL rE rE rJ (fun g => ?_) | refine st_slice1I rJ rJ rJ rJ rJ rJ (fun g => ?_) | refine st_slice1B rJ rJ rJ rJ rJ rJ rO rO (fun g => ?_) | refine st_slice1S rJ rJ rJ rJ rJ rJ (fun g => ?_) | refine st_slice2B rJ rJ rJ rJ rJ rJ rJ rO rO rO rO (fun g => ?_) | (apply exlConv; first | refine st_bytes rJ rJ rJ rJ rJ rO (fun v o => ?_) | refine st_mark _ rJ rJ rK rJ rJ rJ ?_) | refine st_clear _ (0 : UInt8) rJ rK rJ rJ rJ rJ rJ rO ?_ | refine st_clearT _ rJ rK rO rJ rJ rO rE ?_ | (apply exlAppend; first | refine st_app0 rJ rJ rE rD rJ rE rJ rE rJ rJ rJ rO (fun v o => ?_) | refine st_app _ rJ rE rK rE rD rJ rE rJ rE rJ rJ rJ rO (fun v o => ?_) | refine st_shift _ rJ rJ rJ rK rO rJ rJ rJ rO rO rE ?_)) | (refine Ex.cond_d rJ (fun h => ?_) (fun h => ?_) <;> try (exfalso; omega))))
  refine st_callIs [] rJ Try.call21 rJ rJ (short12_F va l _ rD) ?_
  rintro vs0 _ ⟨hvs, rfl⟩
  rw [← hl2] at hvs
  refine st_callIs [] rJ Try.call20 rJ rJ (makePast_F vs0 l2 _ hvs (by omega) hl2o) ?_
  rintro v8 _ ⟨o8, rfl⟩
  rw [← hwm]
  refine ExL.claim 3 [2, 7, 8, 9, 10] (fun vs L' => ∃ (v9 v10 : Value) (a : List Ev) (gb : Nat), a.length ≤ 30 ∧ (∀ e ∈ a, e ∈ w) ∧ v9.oneCell' = true ∧ vs = [vc, .bool true, v8, v9, .slice (some ⟨gb, 0, none⟩) 0 0] ∧ L' = StG v9 a (.slice (some ⟨gb, 0, none⟩) 0 0) [] v8 w W) ?_ ?_
  · rintro vs gk L' ⟨v9, v10, a, gb, hal, haw, o9, rfl, rfl⟩
    refine Ex.claim 1 [7, 8, 9, 10] (fun vs L' => ∃ (v10 : Value) (b : List Ev), b.length ≤ 30 ∧ (∀ e ∈ b, e ∈ w) ∧ v10.oneCell' = true ∧ vs = [.bool true, v8, v9, v10] ∧ L' = StG v9 a v10 b v8 w W) ?_ ?_
    · rintro vs gk L' ⟨v10, b, hbl, hbw, o10, rfl, rfl⟩
      obtain ⟨one, left, two, rest, all, h1, h2, h3, hs, hlw, hll1, hll2, hll3, hll4⟩ := grows hw haw hbw
      have hab : ∀ e ∈ a ++ b, e ∈ w := fun e he => by
        rcases List.mem_append.1 he with h | h
        · exact haw e h
        · exact hbw e h
      have hlb : ∀ e ∈ left ++ b, e ∈ w := fun e he => by
        rcases List.mem_append.1 he with h | h
        · exact hlw e h
        · exact hbw e h
      rw [clock_nil] at h1 h3
      rw [List.length_append] at hll1
      (repeat' (first | refine ExL.val rJ rJ rJ rV ?_ | (first | refine Ex.seq ?_ | refine Ex.region ?_ | refine ExL.nil ?_ | refine thn_n ?_ | refine Ex.cond_t rJ ?_ | refine Ex.cond_f rJ ?_ | refine Ex.skip ?_ | refine Ex.block ?_ | refine Ex.exit ?_ | refine Ex.ret ?_ | refine thn_exit ?_ | refine thn_ret ?_ | refine inb_n ?_ | refine inb_hit rJ ?_ | refine inb_miss rJ ?_ | refine inb_ret ?_ | refine rnd_exit ?_ | refine rnd_ret ?_ | refine meet_ret ?_ | refine meet_exit ?_) | (apply exlGuard; first | refine ExL.gskip rJ rJ rJ rJ rJ rJ ?_ | refine ExL.gtake rJ rJ rJ rJ ?_ | refine ExL.gskipU rJ rJ rJ rJ ?_ | (refine ExL.gsplit rJ rJ rJ (fun h => ?_) (fun h => ?_) <;> try (exfalso; omega))) | (first | refine st_new_ rJ rE (fun g => ?_) | refine st_boxA rJ rJ (fun g => ?_) | refine st_box1 rJ rE rN (fun g => ?_) | (apply exlStore; first | refine st_store1_ _ rJ rK rE rN rJ rJ rE rE ?_ | refine st_storeW_ _ rJ rK rJ rC rJ rJ rJ rE ?_ | refine st_storeR _ rJ rK rJ rE rJ rJ rE ?_ | refine st_storeA_ _ rJ rK rJ rC rJ rJ rJ rE rE ?_ | refine st_storeB _ rJ rJ rO rO rK rJ rO ?_ | refine st_storeG _ rJ rK rE rN rJ rO (fun cs hcs => ?_)) | refine st_slice0 rJ rJ rJ rJ (fun g => ?_) | refine st_slice1T rJ rJ rJ rJ (fun g => ?_) | refine st_makeT rJ rJ rJ rJ rE rJ rO rO (fun v o => ?_) | (apply exlCopy; first | refine st_copyW _ rJ rE rK rE rD rJ rE rJ (fun zs hzs => ?_) | refine st_copyS _ rJ rJ rK rE rD rJ rE rJ rO rO (fun zs hzs => ?_)) | refine st_sliceB rJ rJ rJ rJ rJ rJ rJ rL rE rE rJ (fun g => ?_) | refine st_slice1I rJ rJ rJ rJ rJ rJ (fun g => ?_) | refine st_slice1B rJ rJ rJ rJ rJ rJ rO rO (fun g => ?_) | refine st_slice1S rJ rJ rJ rJ rJ rJ (fun g => ?_) | refine st_slice2B rJ rJ rJ rJ rJ rJ rJ rO rO rO rO (fun g => ?_) | (apply exlConv; first | refine st_bytes rJ rJ rJ rJ rJ rO (fun v o => ?_) | refine st_mark _ rJ rJ rK rJ rJ rJ ?_) | refine st_clear _ (0 : UInt8) rJ rK rJ rJ rJ rJ rJ rO ?_ | refine st_clearT _ rJ rK rO rJ rJ rO rE ?_ | (apply exlAppend; first | refine st_app0 rJ rJ rE rD rJ rE rJ rE rJ rJ rJ rO (fun v o => ?_) | refine st_app _ rJ rE rK rE rD rJ rE rJ rE rJ rJ rJ rO (fun v o => ?_) | refine st_shift _ rJ rJ rJ rK rO rJ rJ rJ rO rO rE ?_)) | (refine Ex.cond_d rJ (fun h => ?_) (fun h => ?_) <;> try (exfalso; omega))))
      refine st_callIs [] rJ Try.call14 rE rJ (drain_R Clk.zero v9 a one left _ _ rD (by omega) (fun e he => hwn e (haw e he)) Clk.I_zero h1) ?_
      rintro _ _ ⟨v1, v2, o1, o2, rfl, rfl⟩
      (repeat' (first | refine ExL.val rJ rJ rJ rV ?_ | (first | refine Ex.seq ?_ | refine Ex.region ?_ | refine ExL.nil ?_ | refine thn_n ?_ | refine Ex.cond_t rJ ?_ | refine Ex.cond_f rJ ?_ | refine Ex.skip ?_ | refine Ex.block ?_ | refine Ex.exit ?_ | refine Ex.ret ?_ | refine thn_exit ?_ | refine thn_ret ?_ | refine inb_n ?_ | refine inb_hit rJ ?_ | refine inb_miss rJ ?_ | refine inb_ret ?_ | refine rnd_exit ?_ | refine rnd_ret ?_ | refine meet_ret ?_ | refine meet_exit ?_) | (apply exlGuard; first | refine ExL.gskip rJ rJ rJ rJ rJ rJ ?_ | refine ExL.gtake rJ rJ rJ rJ ?_ | refine ExL.gskipU rJ rJ rJ rJ ?_ | (refine ExL.gsplit rJ rJ rJ (fun h => ?_) (fun h => ?_) <;> try (exfalso; omega))) | (first | refine st_new_ rJ rE (fun g => ?_) | refine st_boxA rJ rJ (fun g => ?_) | refine st_box1 rJ rE rN (fun g => ?_) | (apply exlStore; first | refine st_store1_ _ rJ rK rE rN rJ rJ rE rE ?_ | refine st_storeW_ _ rJ rK rJ rC rJ rJ rJ rE ?_ | refine st_storeR _ rJ rK rJ rE rJ rJ rE ?_ | refine st_storeA_ _ rJ rK rJ rC rJ rJ rJ rE rE ?_ | refine st_storeB _ rJ rJ rO rO rK rJ rO ?_ | refine st_storeG _ rJ rK rE rN rJ rO (fun cs hcs => ?_)) | refine st_slice0 rJ rJ rJ rJ (fun g => ?_) | refine st_slice1T rJ rJ rJ rJ (fun g => ?_) | refine st_makeT rJ rJ rJ rJ rE rJ rO rO (fun v o => ?_) | (apply exlCopy; first | refine st_copyW _ rJ rE rK rE rD rJ rE rJ (fun zs hzs => ?_) | refine st_copyS _ rJ rJ rK rE rD rJ rE rJ rO rO (fun zs hzs => ?_)) | refine st_sliceB rJ rJ rJ rJ rJ rJ rJ rL rE rE rJ (fun g => ?_) | refine st_slice1I rJ rJ rJ rJ rJ rJ (fun g => ?_) | refine st_slice1B rJ rJ rJ rJ rJ rJ rO rO (fun g => ?_) | refine st_slice1S rJ rJ rJ rJ rJ rJ (fun g => ?_) | refine st_slice2B rJ rJ rJ rJ rJ rJ rJ rO rO rO rO (fun g => ?_) | (apply exlConv; first | refine st_bytes rJ rJ rJ rJ rJ rO (fun v o => ?_) | refine st_mark _ rJ rJ rK rJ rJ rJ ?_) | refine st_clear _ (0 : UInt8) rJ rK rJ rJ rJ rJ rJ rO ?_ | refine st_clearT _ rJ rK rO rJ rJ rO rE ?_ | (apply exlAppend; first | refine st_app0 rJ rJ rE rD rJ rE rJ rE rJ rJ rJ rO (fun v o => ?_) | refine st_app _ rJ rE rK rE rD rJ rE rJ rE rJ rJ rJ rO (fun v o => ?_) | refine st_shift _ rJ rJ rJ rK rO rJ rJ rJ rO rO rE ?_)) | (refine Ex.cond_d rJ (fun h => ?_) (fun h => ?_) <;> try (exfalso; omega))))
      refine Ex.sub (L' := Blk g 23 (Rep.cells (clockP one)) :: Evs_ v1 one :: Evs_ v2 left :: StG v9 a v10 b v8 w W) ?_ rB
      revert g
      intro g15
      (refine Ex.mixA 14 _ rfl (by kernel_rfl) (Fac.refl _) ?_; (repeat' (first | refine mx_val rJ rJ rJ rV ?_ | refine mx_nil ?_ | (first | refine mx_gskip rJ rJ rJ rJ ?_ | refine mx_gtake rJ rJ rJ ?_ | refine mx_gskipU rJ rJ rJ ?_) | (first | refine mx_slice1T rJ rJ rJ rJ (fun g => ?_) | refine mx_slice1I rJ rJ rJ rJ rJ rJ (fun g => ?_) | refine mx_slice1B rJ rJ rJ rJ rJ rJ rO rO (fun g => ?_) | refine mx_slice1S rJ rJ rJ rJ rJ rJ (fun g => ?_) | refine mx_slice2B rJ rJ rJ rJ rJ rJ rJ rO rO rO rO (fun g => ?_) | refine mx_alloc rJ rE (fun g => ?_) | refine mx_boxA rJ rJ (fun g => ?_) | refine mx_slice0 rJ rJ rJ rJ (fun g => ?_)) | (refine mx_gsplit rJ rJ rJ (fun h => ?_) (fun h => ?_) <;> try (exfalso; omega)) | (refine mx_act rJ rJ rJ ?_; (first | (apply exlCopy; first | refine st_copyW _ rJ rE rK rE rD rJ rE rJ (fun zs hzs => ?_) | refine st_copyS _ rJ rJ rK rE rD rJ rE rJ rO rO (fun zs hzs => ?_)) | (apply exlAppend; first | refine st_app0 rJ rJ rE rD rJ rE rJ rE rJ rJ rJ rO (fun v o => ?_) | refine st_app _ rJ rE rK rE rD rJ rE rJ rE rJ rJ rJ rO (fun v o => ?_) | refine st_shift _ rJ rJ rJ rK rO rJ rJ rJ rO rO rE ?_)); refine ExL.nil ?_; refine mxEnd_n rF ?_))))
      (refine mx_act rJ rJ rJ ?_; refine st_callIs [] rJ Try.call14 rE rJ (drain_R (clockP one) v (left ++ b) two rest _ _ rD (by rw [List.length_append]; omega) (fun e he => hwn e (hlb e he)) (clockP_I (by omega)) h2) ?_)
      rintro _ _ ⟨v3, v4, o3, o4, rfl, rfl⟩
      (refine ExL.nil ?_; refine mxEnd_n rF ?_; (repeat' (first | refine mx_val rJ rJ rJ rV ?_ | refine mx_nil ?_ | (first | refine mx_gskip rJ rJ rJ rJ ?_ | refine mx_gtake rJ rJ rJ ?_ | refine mx_gskipU rJ rJ rJ ?_) | (first | refine mx_slice1T rJ rJ rJ rJ (fun g => ?_) | refine mx_slice1I rJ rJ rJ rJ rJ rJ (fun g => ?_) | refine mx_slice1B rJ rJ rJ rJ rJ rJ rO rO (fun g => ?_) | refine mx_slice1S rJ rJ rJ rJ rJ rJ (fun g => ?_) | refine mx_slice2B rJ rJ rJ rJ rJ rJ rJ rO rO rO rO (fun g => ?_) | refine mx_alloc rJ rE (fun g => ?_) | refine mx_boxA rJ rJ (fun g => ?_) | refine mx_slice0 rJ rJ rJ rJ (fun g => ?_)) | (refine mx_gsplit rJ rJ rJ (fun h => ?_) (fun h => ?_) <;> try (exfalso; omega)) | (refine mx_act rJ rJ rJ ?_; (first | (apply exlCopy; first | refine st_copyW _ rJ rE rK rE rD rJ rE rJ (fun zs hzs => ?_) | refine st_copyS _ rJ rJ rK rE rD rJ rE rJ rO rO (fun zs hzs => ?_)) | (apply exlAppend; first | refine st_app0 rJ rJ rE rD rJ rE rJ rE rJ rJ rJ rO (fun v o => ?_) | refine st_app _ rJ rE rK rE rD rJ rE rJ rE rJ rJ rJ rO (fun v o => ?_) | refine st_shift _ rJ rJ rJ rK rO rJ rJ rJ rO rO rE ?_)); refine ExL.nil ?_; refine mxEnd_n rF ?_))))
      (repeat' (first | refine ExL.val rJ rJ rJ rV ?_ | (first | refine Ex.seq ?_ | refine Ex.region ?_ | refine ExL.nil ?_ | refine thn_n ?_ | refine Ex.cond_t rJ ?_ | refine Ex.cond_f rJ ?_ | refine Ex.skip ?_ | refine Ex.block ?_ | refine Ex.exit ?_ | refine Ex.ret ?_ | refine thn_exit ?_ | refine thn_ret ?_ | refine inb_n ?_ | refine inb_hit rJ ?_ | refine inb_miss rJ ?_ | refine inb_ret ?_ | refine rnd_exit ?_ | refine rnd_ret ?_ | refine meet_ret ?_ | refine meet_exit ?_) | (apply exlGuard; first | refine ExL.gskip rJ rJ rJ rJ rJ rJ ?_ | refine ExL.gtake rJ rJ rJ rJ ?_ | refine ExL.gskipU rJ rJ rJ rJ ?_ | (refine ExL.gsplit rJ rJ rJ (fun h => ?_) (fun h => ?_) <;> try (exfalso; omega))) | (first | refine st_new_ rJ rE (fun g => ?_) | refine st_boxA rJ rJ (fun g => ?_) | refine st_box1 rJ rE rN (fun g => ?_) | (apply exlStore; first | refine st_store1_ _ rJ rK rE rN rJ rJ rE rE ?_ | refine st_storeW_ _ rJ rK rJ rC rJ rJ rJ rE ?_ | refine st_storeR _ rJ rK rJ rE rJ rJ rE ?_ | refine st_storeA_ _ rJ rK rJ rC rJ rJ rJ rE rE ?_ | refine st_storeB _ rJ rJ rO rO rK rJ rO ?_ | refine st_storeG _ rJ rK rE rN rJ rO (fun cs hcs => ?_)) | refine st_slice0 rJ rJ rJ rJ (fun g => ?_) | refine st_slice1T rJ rJ rJ rJ (fun g => ?_) | refine st_makeT rJ rJ rJ rJ rE rJ rO rO (fun v o => ?_) | (apply exlCopy; first | refine st_copyW _ rJ rE rK rE rD rJ rE rJ (fun zs hzs => ?_) | refine st_copyS _ rJ rJ rK rE rD rJ rE rJ rO rO (fun zs hzs => ?_)) | refine st_sliceB rJ rJ rJ rJ rJ rJ rJ rL rE rE rJ (fun g => ?_) | refine st_slice1I rJ rJ rJ rJ rJ rJ (fun g => ?_) | refine st_slice1B rJ rJ rJ rJ rJ rJ rO rO (fun g => ?_) | refine st_slice1S rJ rJ rJ rJ rJ rJ (fun g => ?_) | refine st_slice2B rJ rJ rJ rJ rJ rJ rJ rO rO rO rO (fun g => ?_) | (apply exlConv; first | refine st_bytes rJ rJ rJ rJ rJ rO (fun v o => ?_) | refine st_mark _ rJ rJ rK rJ rJ rJ ?_) | refine st_clear _ (0 : UInt8) rJ rK rJ rJ rJ rJ rJ rO ?_ | refine st_clearT _ rJ rK rO rJ rJ rO rE ?_ | (apply exlAppend; first | refine st_app0 rJ rJ rE rD rJ rE rJ rE rJ rJ rJ rO (fun v o => ?_) | refine st_app _ rJ rE rK rE rD rJ rE rJ rE rJ rJ rJ rO (fun v o => ?_) | refine st_shift _ rJ rJ rJ rK rO rJ rJ rJ rO rO rE ?_)) | (refine Ex.cond_d rJ (fun h => ?_) (fun h => ?_) <;> try (exfalso; omega))))
      revert o
      revert v
      intro v7 o7
      revert g
      intro gn
      revert g
      intro g18
      refine ExL.sub (L' := Evs_ v7 a :: Blk g18 23 (Rep.cells (clockP all)) :: Evs_ v3 two :: Evs_ v4 rest :: Evs_ v1 one :: Evs_ v10 b :: [Base W]) ?_ rB
      (repeat' (first | refine ExL.val rJ rJ rJ rV ?_ | (first | refine Ex.seq ?_ | refine Ex.region ?_ | refine ExL.nil ?_ | refine thn_n ?_ | refine Ex.cond_t rJ ?_ | refine Ex.cond_f rJ ?_ | refine Ex.skip ?_ | refine Ex.block ?_ | refine Ex.exit ?_ | refine Ex.ret ?_ | refine thn_exit ?_ | refine thn_ret ?_ | refine inb_n ?_ | refine inb_hit rJ ?_ | refine inb_miss rJ ?_ | refine inb_ret ?_ | refine rnd_exit ?_ | refine rnd_ret ?_ | refine meet_ret ?_ | refine meet_exit ?_) | (apply exlGuard; first | refine ExL.gskip rJ rJ rJ rJ rJ rJ ?_ | refine ExL.gtake rJ rJ rJ rJ ?_ | refine ExL.gskipU rJ rJ rJ rJ ?_ | (refine ExL.gsplit rJ rJ rJ (fun h => ?_) (fun h => ?_) <;> try (exfalso; omega))) | (first | refine st_new_ rJ rE (fun g => ?_) | refine st_boxA rJ rJ (fun g => ?_) | refine st_box1 rJ rE rN (fun g => ?_) | (apply exlStore; first | refine st_store1_ _ rJ rK rE rN rJ rJ rE rE ?_ | refine st_storeW_ _ rJ rK rJ rC rJ rJ rJ rE ?_ | refine st_storeR _ rJ rK rJ rE rJ rJ rE ?_ | refine st_storeA_ _ rJ rK rJ rC rJ rJ rJ rE rE ?_ | refine st_storeB _ rJ rJ rO rO rK rJ rO ?_ | refine st_storeG _ rJ rK rE rN rJ rO (fun cs hcs => ?_)) | refine st_slice0 rJ rJ rJ rJ (fun g => ?_) | refine st_slice1T rJ rJ rJ rJ (fun g => ?_) | refine st_makeT rJ rJ rJ rJ rE rJ rO rO (fun v o => ?_) | (apply exlCopy; first | refine st_copyW _ rJ rE rK rE rD rJ rE rJ (fun zs hzs => ?_) | refine st_copyS _ rJ rJ rK rE rD rJ rE rJ rO rO (fun zs hzs => ?_)) | refine st_sliceB rJ rJ rJ rJ rJ rJ rJ rL rE rE rJ (fun g => ?_) | refine st_slice1I rJ rJ rJ rJ rJ rJ (fun g => ?_) | refine st_slice1B rJ rJ rJ rJ rJ rJ rO rO (fun g => ?_) | refine st_slice1S rJ rJ rJ rJ rJ rJ (fun g => ?_) | refine st_slice2B rJ rJ rJ rJ rJ rJ rJ rO rO rO rO (fun g => ?_) | (apply exlConv; first | refine st_bytes rJ rJ rJ rJ rJ rO (fun v o => ?_) | refine st_mark _ rJ rJ rK rJ rJ rJ ?_) | refine st_clear _ (0 : UInt8) rJ rK rJ rJ rJ rJ rJ rO ?_ | refine st_clearT _ rJ rK rO rJ rJ rO rE ?_ | (apply exlAppend; first | refine st_app0 rJ rJ rE rD rJ rE rJ rE rJ rJ rJ rO (fun v o => ?_) | refine st_app _ rJ rE rK rE rD rJ rE rJ rE rJ rJ rJ rO (fun v o => ?_) | refine st_shift _ rJ rJ rJ rK rO rJ rJ rJ rO rO rE ?_)) | (refine Ex.cond_d rJ (fun h => ?_) (fun h => ?_) <;> try (exfalso; omega))))
      refine st_callIs [] rJ Try.call14 rE rJ (drain_R Clk.zero _ (a ++ b) all rest _ _ rD (by rw [List.length_append]; omega) (fun e he => hwn e (hab e he)) Clk.I_zero h3) ?_
      rintro _ _ ⟨v5, v6, o5, o6, rfl, rfl⟩
      (repeat' (first | refine ExL.val rJ rJ rJ rV ?_ | (first | refine Ex.seq ?_ | refine Ex.region ?_ | refine ExL.nil ?_ | refine thn_n ?_ | refine Ex.cond_t rJ ?_ | refine Ex.cond_f rJ ?_ | refine Ex.skip ?_ | refine Ex.block ?_ | refine Ex.exit ?_ | refine Ex.ret ?_ | refine thn_exit ?_ | refine thn_ret ?_ | refine inb_n ?_ | refine inb_hit rJ ?_ | refine inb_miss rJ ?_ | refine inb_ret ?_ | refine rnd_exit ?_ | refine rnd_ret ?_ | refine meet_ret ?_ | refine meet_exit ?_) | (apply exlGuard; first | refine ExL.gskip rJ rJ rJ rJ rJ rJ ?_ | refine ExL.gtake rJ rJ rJ rJ ?_ | refine ExL.gskipU rJ rJ rJ rJ ?_ | (refine ExL.gsplit rJ rJ rJ (fun h => ?_) (fun h => ?_) <;> try (exfalso; omega))) | (first | refine st_new_ rJ rE (fun g => ?_) | refine st_boxA rJ rJ (fun g => ?_) | refine st_box1 rJ rE rN (fun g => ?_) | (apply exlStore; first | refine st_store1_ _ rJ rK rE rN rJ rJ rE rE ?_ | refine st_storeW_ _ rJ rK rJ rC rJ rJ rJ rE ?_ | refine st_storeR _ rJ rK rJ rE rJ rJ rE ?_ | refine st_storeA_ _ rJ rK rJ rC rJ rJ rJ rE rE ?_ | refine st_storeB _ rJ rJ rO rO rK rJ rO ?_ | refine st_storeG _ rJ rK rE rN rJ rO (fun cs hcs => ?_)) | refine st_slice0 rJ rJ rJ rJ (fun g => ?_) | refine st_slice1T rJ rJ rJ rJ (fun g => ?_) | refine st_makeT rJ rJ rJ rJ rE rJ rO rO (fun v o => ?_) | (apply exlCopy; first | refine st_copyW _ rJ rE rK rE rD rJ rE rJ (fun zs hzs => ?_) | refine st_copyS _ rJ rJ rK rE rD rJ rE rJ rO rO (fun zs hzs => ?_)) | refine st_sliceB rJ rJ rJ rJ rJ rJ rJ rL rE rE rJ (fun g => ?_) | refine st_slice1I rJ rJ rJ rJ rJ rJ (fun g => ?_) | refine st_slice1B rJ rJ rJ rJ rJ rJ rO rO (fun g => ?_) | refine st_slice1S rJ rJ rJ rJ rJ rJ (fun g => ?_) | refine st_slice2B rJ rJ rJ rJ rJ rJ rJ rO rO rO rO (fun g => ?_) | (apply exlConv; first | refine st_bytes rJ rJ rJ rJ rJ rO (fun v o => ?_) | refine st_mark _ rJ rJ rK rJ rJ rJ ?_) | refine st_clear _ (0 : UInt8) rJ rK rJ rJ rJ rJ rJ rO ?_ | refine st_clearT _ rJ rK rO rJ rJ rO rE ?_ | (apply exlAppend; first | refine st_app0 rJ rJ rE rD rJ rE rJ rE rJ rJ rJ rO (fun v o => ?_) | refine st_app _ rJ rE rK rE rD rJ rE rJ rE rJ rJ rJ rO (fun v o => ?_) | refine st_shift _ rJ rJ rJ rK rO rJ rJ rJ rO rO rE ?_)) | (refine Ex.cond_d rJ (fun h => ?_) (fun h => ?_) <;> try (exfalso; omega))))
      refine ExL.sub (L' := Evs_ v (one ++ two) :: Evs_ v5 all :: Evs_ v6 rest :: Evs_ v4 rest :: [Base W]) ?_ rB
      have hll5 : (one ++ two).length ≤ 40 := by rw [List.length_append]; omega
      refine st_callIs [] rJ Try.call35 rE rJ (psort_F v (one ++ two) _ rD hll5) ?_
      rintro v8 _ ⟨o8, rfl⟩
      rw [hs]
      (repeat' (first | refine ExL.val rJ rJ rJ rV ?_ | (first | refine Ex.seq ?_ | refine Ex.region ?_ | refine ExL.nil ?_ | refine thn_n ?_ | refine Ex.cond_t rJ ?_ | refine Ex.cond_f rJ ?_ | refine Ex.skip ?_ | refine Ex.block ?_ | refine Ex.exit ?_ | refine Ex.ret ?_ | refine thn_exit ?_ | refine thn_ret ?_ | refine inb_n ?_ | refine inb_hit rJ ?_ | refine inb_miss rJ ?_ | refine inb_ret ?_ | refine rnd_exit ?_ | refine rnd_ret ?_ | refine meet_ret ?_ | refine meet_exit ?_) | (apply exlGuard; first | refine ExL.gskip rJ rJ rJ rJ rJ rJ ?_ | refine ExL.gtake rJ rJ rJ rJ ?_ | refine ExL.gskipU rJ rJ rJ rJ ?_ | (refine ExL.gsplit rJ rJ rJ (fun h => ?_) (fun h => ?_) <;> try (exfalso; omega))) | (first | refine st_new_ rJ rE (fun g => ?_) | refine st_boxA rJ rJ (fun g => ?_) | refine st_box1 rJ rE rN (fun g => ?_) | (apply exlStore; first | refine st_store1_ _ rJ rK rE rN rJ rJ rE rE ?_ | refine st_storeW_ _ rJ rK rJ rC rJ rJ rJ rE ?_ | refine st_storeR _ rJ rK rJ rE rJ rJ rE ?_ | refine st_storeA_ _ rJ rK rJ rC rJ rJ rJ rE rE ?_ | refine st_storeB _ rJ rJ rO rO rK rJ rO ?_ | refine st_storeG _ rJ rK rE rN rJ rO (fun cs hcs => ?_)) | refine st_slice0 rJ rJ rJ rJ (fun g => ?_) | refine st_slice1T rJ rJ rJ rJ (fun g => ?_) | refine st_makeT rJ rJ rJ rJ rE rJ rO rO (fun v o => ?_) | (apply exlCopy; first | refine st_copyW _ rJ rE rK rE rD rJ rE rJ (fun zs hzs => ?_) | refine st_copyS _ rJ rJ rK rE rD rJ rE rJ rO rO (fun zs hzs => ?_)) | refine st_sliceB rJ rJ rJ rJ rJ rJ rJ rL rE rE rJ (fun g => ?_) | refine st_slice1I rJ rJ rJ rJ rJ rJ (fun g => ?_) | refine st_slice1B rJ rJ rJ rJ rJ rJ rO rO (fun g => ?_) | refine st_slice1S rJ rJ rJ rJ rJ rJ (fun g => ?_) | refine st_slice2B rJ rJ rJ rJ rJ rJ rJ rO rO rO rO (fun g => ?_) | (apply exlConv; first | refine st_bytes rJ rJ rJ rJ rJ rO (fun v o => ?_) | refine st_mark _ rJ rJ rK rJ rJ rJ ?_) | refine st_clear _ (0 : UInt8) rJ rK rJ rJ rJ rJ rJ rO ?_ | refine st_clearT _ rJ rK rO rJ rJ rO rE ?_ | (apply exlAppend; first | refine st_app0 rJ rJ rE rD rJ rE rJ rE rJ rJ rJ rO (fun v o => ?_) | refine st_app _ rJ rE rK rE rD rJ rE rJ rE rJ rJ rJ rO (fun v o => ?_) | refine st_shift _ rJ rJ rJ rK rO rJ rJ rJ rO rO rE ?_)) | (refine Ex.cond_d rJ (fun h => ?_) (fun h => ?_) <;> try (exfalso; omega))))
      refine st_callIs [] rJ Try.call35 rE rJ (psort_F v5 all _ rD (by omega)) ?_
      rintro v9 _ ⟨o9, rfl⟩
      have hsl := sortP_len all
      generalize sortP all = so at hsl ⊢
      (repeat' (first | refine ExL.val rJ rJ rJ rV ?_ | (first | refine Ex.seq ?_ | refine Ex.region ?_ | refine ExL.nil ?_ | refine thn_n ?_ | refine Ex.cond_t rJ ?_ | refine Ex.cond_f rJ ?_ | refine Ex.skip ?_ | refine Ex.block ?_ | refine Ex.exit ?_ | refine Ex.ret ?_ | refine thn_exit ?_ | refine thn_ret ?_ | refine inb_n ?_ | refine inb_hit rJ ?_ | refine inb_miss rJ ?_ | refine inb_ret ?_ | refine rnd_exit ?_ | refine rnd_ret ?_ | refine meet_ret ?_ | refine meet_exit ?_) | (apply exlGuard; first | refine ExL.gskip rJ rJ rJ rJ rJ rJ ?_ | refine ExL.gtake rJ rJ rJ rJ ?_ | refine ExL.gskipU rJ rJ rJ rJ ?_ | (refine ExL.gsplit rJ rJ rJ (fun h => ?_) (fun h => ?_) <;> try (exfalso; omega))) | (first | refine st_new_ rJ rE (fun g => ?_) | refine st_boxA rJ rJ (fun g => ?_) | refine st_box1 rJ rE rN (fun g => ?_) | (apply exlStore; first | refine st_store1_ _ rJ rK rE rN rJ rJ rE rE ?_ | refine st_storeW_ _ rJ rK rJ rC rJ rJ rJ rE ?_ | refine st_storeR _ rJ rK rJ rE rJ rJ rE ?_ | refine st_storeA_ _ rJ rK rJ rC rJ rJ rJ rE rE ?_ | refine st_storeB _ rJ rJ rO rO rK rJ rO ?_ | refine st_storeG _ rJ rK rE rN rJ rO (fun cs hcs => ?_)) | refine st_slice0 rJ rJ rJ rJ (fun g => ?_) | refine st_slice1T rJ rJ rJ rJ (fun g => ?_) | refine st_makeT rJ rJ rJ rJ rE rJ rO rO (fun v o => ?_) | (apply exlCopy; first | refine st_copyW _ rJ rE rK rE rD rJ rE rJ (fun zs hzs => ?_) | refine st_copyS _ rJ rJ rK rE rD rJ rE rJ rO rO (fun zs hzs => ?_)) | refine st_sliceB rJ rJ rJ rJ rJ rJ rJ rL rE rE rJ (fun g => ?_) | refine st_slice1I rJ rJ rJ rJ rJ rJ (fun g => ?_) | refine st_slice1B rJ rJ rJ rJ rJ rJ rO rO (fun g => ?_) | refine st_slice1S rJ rJ rJ rJ rJ rJ (fun g => ?_) | refine st_slice2B rJ rJ rJ rJ rJ rJ rJ rO rO rO rO (fun g => ?_) | (apply exlConv; first | refine st_bytes rJ rJ rJ rJ rJ rO (fun v o => ?_) | refine st_mark _ rJ rJ rK rJ rJ rJ ?_) | refine st_clear _ (0 : UInt8) rJ rK rJ rJ rJ rJ rJ rO ?_ | refine st_clearT _ rJ rK rO rJ rJ rO rE ?_ | (apply exlAppend; first | refine st_app0 rJ rJ rE rD rJ rE rJ rE rJ rJ rJ rO (fun v o => ?_) | refine st_app _ rJ rE rK rE rD rJ rE rJ rE rJ rJ rJ rO (fun v o => ?_) | refine st_shift _ rJ rJ rJ rK rO rJ rJ rJ rO rO rE ?_)) | (refine Ex.cond_d rJ (fun h => ?_) (fun h => ?_) <;> try (exfalso; omega))))
      refine st_callIs [] rJ Try.call17 rE rJ (same_fn v8 v9 so _ rD rD (by omega)) ?_
      rintro _ _ ⟨rfl, rfl⟩
      (repeat' (first | refine ExL.val rJ rJ rJ rV ?_ | (first | refine Ex.seq ?_ | refine Ex.region ?_ | refine ExL.nil ?_ | refine thn_n ?_ | refine Ex.cond_t rJ ?_ | refine Ex.cond_f rJ ?_ | refine Ex.skip ?_ | refine Ex.block ?_ | refine Ex.exit ?_ | refine Ex.ret ?_ | refine thn_exit ?_ | refine thn_ret ?_ | refine inb_n ?_ | refine inb_hit rJ ?_ | refine inb_miss rJ ?_ | refine inb_ret ?_ | refine rnd_exit ?_ | refine rnd_ret ?_ | refine meet_ret ?_ | refine meet_exit ?_) | (apply exlGuard; first | refine ExL.gskip rJ rJ rJ rJ rJ rJ ?_ | refine ExL.gtake rJ rJ rJ rJ ?_ | refine ExL.gskipU rJ rJ rJ rJ ?_ | (refine ExL.gsplit rJ rJ rJ (fun h => ?_) (fun h => ?_) <;> try (exfalso; omega))) | (first | refine st_new_ rJ rE (fun g => ?_) | refine st_boxA rJ rJ (fun g => ?_) | refine st_box1 rJ rE rN (fun g => ?_) | (apply exlStore; first | refine st_store1_ _ rJ rK rE rN rJ rJ rE rE ?_ | refine st_storeW_ _ rJ rK rJ rC rJ rJ rJ rE ?_ | refine st_storeR _ rJ rK rJ rE rJ rJ rE ?_ | refine st_storeA_ _ rJ rK rJ rC rJ rJ rJ rE rE ?_ | refine st_storeB _ rJ rJ rO rO rK rJ rO ?_ | refine st_storeG _ rJ rK rE rN rJ rO (fun cs hcs => ?_)) | refine st_slice0 rJ rJ rJ rJ (fun g => ?_) | refine st_slice1T rJ rJ rJ rJ (fun g => ?_) | refine st_makeT rJ rJ rJ rJ rE rJ rO rO (fun v o => ?_) | (apply exlCopy; first | refine st_copyW _ rJ rE rK rE rD rJ rE rJ (fun zs hzs => ?_) | refine st_copyS _ rJ rJ rK rE rD rJ rE rJ rO rO (fun zs hzs => ?_)) | refine st_sliceB rJ rJ rJ rJ rJ rJ rJ rL rE rE rJ (fun g => ?_) | refine st_slice1I rJ rJ rJ rJ rJ rJ (fun g => ?_) | refine st_slice1B rJ rJ rJ rJ rJ rJ rO rO (fun g => ?_) | refine st_slice1S rJ rJ rJ rJ rJ rJ (fun g => ?_) | refine st_slice2B rJ rJ rJ rJ rJ rJ rJ rO rO rO rO (fun g => ?_) | (apply exlConv; first | refine st_bytes rJ rJ rJ rJ rJ rO (fun v o => ?_) | refine st_mark _ rJ rJ rK rJ rJ rJ ?_) | refine st_clear _ (0 : UInt8) rJ rK rJ rJ rJ rJ rJ rO ?_ | refine st_clearT _ rJ rK rO rJ rJ rO rE ?_ | (apply exlAppend; first | refine st_app0 rJ rJ rE rD rJ rE rJ rE rJ rJ rJ rO (fun v o => ?_) | refine st_app _ rJ rE rK rE rD rJ rE rJ rE rJ rJ rJ rO (fun v o => ?_) | refine st_shift _ rJ rJ rJ rK rO rJ rJ rJ rO rO rE ?_)) | (refine Ex.cond_d rJ (fun h => ?_) (fun h => ?_) <;> try (exfalso; omega))))
      refine st_callIs [] rJ Try.call17 rE rJ (same_fn v4 v6 rest _ rD rD (by omega)) ?_
      rintro _ _ ⟨rfl, rfl⟩
      (repeat' (first | refine ExL.val rJ rJ rJ rV ?_ | (first | refine Ex.seq ?_ | refine Ex.region ?_ | refine ExL.nil ?_ | refine thn_n ?_ | refine Ex.cond_t rJ ?_ | refine Ex.cond_f rJ ?_ | refine Ex.skip ?_ | refine Ex.block ?_ | refine Ex.exit ?_ | refine Ex.ret ?_ | refine thn_exit ?_ | refine thn_ret ?_ | refine inb_n ?_ | refine inb_hit rJ ?_ | refine inb_miss rJ ?_ | refine inb_ret ?_ | refine rnd_exit ?_ | refine rnd_ret ?_ | refine meet_ret ?_ | refine meet_exit ?_) | (apply exlGuard; first | refine ExL.gskip rJ rJ rJ rJ rJ rJ ?_ | refine ExL.gtake rJ rJ rJ rJ ?_ | refine ExL.gskipU rJ rJ rJ rJ ?_ | (refine ExL.gsplit rJ rJ rJ (fun h => ?_) (fun h => ?_) <;> try (exfalso; omega))) | (first | refine st_new_ rJ rE (fun g => ?_) | refine st_boxA rJ rJ (fun g => ?_) | refine st_box1 rJ rE rN (fun g => ?_) | (apply exlStore; first | refine st_store1_ _ rJ rK rE rN rJ rJ rE rE ?_ | refine st_storeW_ _ rJ rK rJ rC rJ rJ rJ rE ?_ | refine st_storeR _ rJ rK rJ rE rJ rJ rE ?_ | refine st_storeA_ _ rJ rK rJ rC rJ rJ rJ rE rE ?_ | refine st_storeB _ rJ rJ rO rO rK rJ rO ?_ | refine st_storeG _ rJ rK rE rN rJ rO (fun cs hcs => ?_)) | refine st_slice0 rJ rJ rJ rJ (fun g => ?_) | refine st_slice1T rJ rJ rJ rJ (fun g => ?_) | refine st_makeT rJ rJ rJ rJ rE rJ rO rO (fun v o => ?_) | (apply exlCopy; first | refine st_copyW _ rJ rE rK rE rD rJ rE rJ (fun zs hzs => ?_) | refine st_copyS _ rJ rJ rK rE rD rJ rE rJ rO rO (fun zs hzs => ?_)) | refine st_sliceB rJ rJ rJ rJ rJ rJ rJ rL rE rE rJ (fun g => ?_) | refine st_slice1I rJ rJ rJ rJ rJ rJ (fun g => ?_) | refine st_slice1B rJ rJ rJ rJ rJ rJ rO rO (fun g => ?_) | refine st_slice1S rJ rJ rJ rJ rJ rJ (fun g => ?_) | refine st_slice2B rJ rJ rJ rJ rJ rJ rJ rO rO rO rO (fun g => ?_) | (apply exlConv; first | refine st_bytes rJ rJ rJ rJ rJ rO (fun v o => ?_) | refine st_mark _ rJ rJ rK rJ rJ rJ ?_) | refine st_clear _ (0 : UInt8) rJ rK rJ rJ rJ rJ rJ rO ?_ | refine st_clearT _ rJ rK rO rJ rJ rO rE ?_ | (apply exlAppend; first | refine st_app0 rJ rJ rE rD rJ rE rJ rE rJ rJ rJ rO (fun v o => ?_) | refine st_app _ rJ rE rK rE rD rJ rE rJ rE rJ rJ rJ rO (fun v o => ?_) | refine st_shift _ rJ rJ rJ rK rO rJ rJ rJ rO rO rE ?_)) | (refine Ex.cond_d rJ (fun h => ?_) (fun h => ?_) <;> try (exfalso; omega))))
      (first | refine fin_ret rS ?_ | refine fin_norm rS ?_)
      exact ⟨_, rB, rfl, rfl⟩
    · intro HC
      (repeat' (first | refine ExL.val rJ rJ rJ rV ?_ | (first | refine Ex.seq ?_ | refine Ex.region ?_ | refine ExL.nil ?_ | refine thn_n ?_ | refine Ex.cond_t rJ ?_ | refine Ex.cond_f rJ ?_ | refine Ex.skip ?_ | refine Ex.block ?_ | refine Ex.exit ?_ | refine Ex.ret ?_ | refine thn_exit ?_ | refine thn_ret ?_ | refine inb_n ?_ | refine inb_hit rJ ?_ | refine inb_miss rJ ?_ | refine inb_ret ?_ | refine rnd_exit ?_ | refine rnd_ret ?_ | refine meet_ret ?_ | refine meet_exit ?_) | (apply exlGuard; first | refine ExL.gskip rJ rJ rJ rJ rJ rJ ?_ | refine ExL.gtake rJ rJ rJ rJ ?_ | refine ExL.gskipU rJ rJ rJ rJ ?_ | (refine ExL.gsplit rJ rJ rJ (fun h => ?_) (fun h => ?_) <;> try (exfalso; omega))) | (first | refine st_new_ rJ rE (fun g => ?_) | refine st_boxA rJ rJ (fun g => ?_) | refine st_box1 rJ rE rN (fun g => ?_) | (apply exlStore; first | refine st_store1_ _ rJ rK rE rN rJ rJ rE rE ?_ | refine st_storeW_ _ rJ rK rJ rC rJ rJ rJ rE ?_ | refine st_storeR _ rJ rK rJ rE rJ rJ rE ?_ | refine st_storeA_ _ rJ rK rJ rC rJ rJ rJ rE rE ?_ | refine st_storeB _ rJ rJ rO rO rK rJ rO ?_ | refine st_storeG _ rJ rK rE rN rJ rO (fun cs hcs => ?_)) | refine st_slice0 rJ rJ rJ rJ (fun g => ?_) | refine st_slice1T rJ rJ rJ rJ (fun g => ?_) | refine st_makeT rJ rJ rJ rJ rE rJ rO rO (fun v o => ?_) | (apply exlCopy; first | refine st_copyW _ rJ rE rK rE rD rJ rE rJ (fun zs hzs => ?_) | refine st_copyS _ rJ rJ rK rE rD rJ rE rJ rO rO (fun zs hzs => ?_)) | refine st_sliceB rJ rJ rJ rJ rJ rJ rJ rL rE rE rJ (fun g => ?_) | refine st_slice1I rJ rJ rJ rJ rJ rJ (fun g => ?_) | refine st_slice1B rJ rJ rJ rJ rJ rJ rO rO (fun g => ?_) | refine st_slice1S rJ rJ rJ rJ rJ rJ (fun g => ?_) | refine st_slice2B rJ rJ rJ rJ rJ rJ rJ rO rO rO rO (fun g => ?_) | (apply exlConv; first | refine st_bytes rJ rJ rJ rJ rJ rO (fun v o => ?_) | refine st_mark _ rJ rJ rK rJ rJ rJ ?_) | refine st_clear _ (0 : UInt8) rJ rK rJ rJ rJ rJ rJ rO ?_ | refine st_clearT _ rJ rK rO rJ rJ rO rE ?_ | (apply exlAppend; first | refine st_app0 rJ rJ rE rD rJ rE rJ rE rJ rJ rJ rO (fun v o => ?_) | refine st_app _ rJ rE rK rE rD rJ rE rJ rE rJ rJ rJ rO (fun v o => ?_) | refine st_shift _ rJ rJ rJ rK rO rJ rJ rJ rO rO rE ?_)) | (refine Ex.cond_d rJ (fun h => ?_) (fun h => ?_) <;> try (exfalso; omega))))
      refine Ex.loop [10, 12] (fun m vs L' => ∃ (i : Nat) (v10 : Value) (b : List Ev), i ≤ 30 ∧ m = 30 - i ∧ b.length = i ∧ (∀ e ∈ b, e ∈ w) ∧ v10.oneCell' = true ∧ vs = [v10, .int .i64 i] ∧ L' = StG v9 a v10 b v8 w W) 30 ⟨0, _, [], by omega, rfl, rfl, by simp, rfl, rfl, rfl⟩ ?_
      rintro m vs g2 L' ⟨i, v10, b, hi, rfl, hbl, hbw, o10, rfl, rfl⟩
      refine Ex.keep [2, 7, 8, 9, 10, 12] rG (fun gk => ?_)
      by_cases hlt : i < py.length ∧ i < 30 ∧ 0 < w.length
      · obtain ⟨h1, h2, h3⟩ := hlt
        have hm0 := Int.emod_nonneg ((py[i]'h1).toNat : Int) (show (w.length : Int) ≠ 0 by omega)
        have hm1 := Int.emod_lt_of_pos ((py[i]'h1).toNat : Int) (show (0 : Int) < w.length by omega)
        have hb := (py[i]'h1).toNat_lt
        (repeat' (first | refine ExL.val rJ rJ rJ rV ?_ | (first | refine Ex.seq ?_ | refine Ex.region ?_ | refine ExL.nil ?_ | refine thn_n ?_ | refine Ex.cond_t rJ ?_ | refine Ex.cond_f rJ ?_ | refine Ex.skip ?_ | refine Ex.block ?_ | refine Ex.exit ?_ | refine Ex.ret ?_ | refine thn_exit ?_ | refine thn_ret ?_ | refine inb_n ?_ | refine inb_hit rJ ?_ | refine inb_miss rJ ?_ | refine inb_ret ?_ | refine rnd_exit ?_ | refine rnd_ret ?_ | refine meet_ret ?_ | refine meet_exit ?_) | (apply exlGuard; first | refine ExL.gskip rJ rJ rJ rJ rJ rJ ?_ | refine ExL.gtake rJ rJ rJ rJ ?_ | refine ExL.gskipU rJ rJ rJ rJ ?_ | (refine ExL.gsplit rJ rJ rJ (fun h => ?_) (fun h => ?_) <;> try (exfalso; omega))) | (first | refine st_new_ rJ rE (fun g => ?_) | refine st_boxA rJ rJ (fun g => ?_) | refine st_box1 rJ rE rN (fun g => ?_) | (apply exlStore; first | refine st_store1_ _ rJ rK rE rN rJ rJ rE rE ?_ | refine st_storeW_ _ rJ rK rJ rC rJ rJ rJ rE ?_ | refine st_storeR _ rJ rK rJ rE rJ rJ rE ?_ | refine st_storeA_ _ rJ rK rJ rC rJ rJ rJ rE rE ?_ | refine st_storeB _ rJ rJ rO rO rK rJ rO ?_ | refine st_storeG _ rJ rK rE rN rJ rO (fun cs hcs => ?_)) | refine st_slice0 rJ rJ rJ rJ (fun g => ?_) | refine st_slice1T rJ rJ rJ rJ (fun g => ?_) | refine st_makeT rJ rJ rJ rJ rE rJ rO rO (fun v o => ?_) | (apply exlCopy; first | refine st_copyW _ rJ rE rK rE rD rJ rE rJ (fun zs hzs => ?_) | refine st_copyS _ rJ rJ rK rE rD rJ rE rJ rO rO (fun zs hzs => ?_)) | refine st_sliceB rJ rJ rJ rJ rJ rJ rJ rL rE rE rJ (fun g => ?_) | refine st_slice1I rJ rJ rJ rJ rJ rJ (fun g => ?_) | refine st_slice1B rJ rJ rJ rJ rJ rJ rO rO (fun g => ?_) | refine st_slice1S rJ rJ rJ rJ rJ rJ (fun g => ?_) | refine st_slice2B rJ rJ rJ rJ rJ rJ rJ rO rO rO rO (fun g => ?_) | (apply exlConv; first | refine st_bytes rJ rJ rJ rJ rJ rO (fun v o => ?_) | refine st_mark _ rJ rJ rK rJ rJ rJ ?_) | refine st_clear _ (0 : UInt8) rJ rK rJ rJ rJ rJ rJ rO ?_ | refine st_clearT _ rJ rK rO rJ rJ rO rE ?_ | (apply exlAppend; first | refine st_app0 rJ rJ rE rD rJ rE rJ rE rJ rJ rJ rO (fun v o => ?_) | refine st_app _ rJ rE rK rE rD rJ rE rJ rE rJ rJ rJ rO (fun v o => ?_) | refine st_shift _ rJ rJ rJ rK rO rJ rJ rJ rO rO rE ?_)) | (refine Ex.cond_d rJ (fun h => ?_) (fun h => ?_) <;> try (exfalso; omega))))
        exact rnd_n ⟨30 - (i + 1), StG v9 a v (b ++ [w[(((py[i]'h1).toNat : Int) % (w.length : Int)).toNat]'(by omega)]) v8 w W, by omega, Sub.fr [1] rfl rB, i + 1, v, _, by omega, rfl, by simp [hbl], pick_mem hbw (k := (((py[i]'h1).toNat : Int) % (w.length : Int)).toNat) (by omega), by assumption, lcons rfl (lcons (vint (by omega)) rfl), rfl⟩
      · have hcut : py.length ≤ i ∨ (i < py.length ∧ 30 ≤ i) ∨ (i < py.length ∧ i < 30 ∧ w.length = 0) := by omega
        rcases hcut with hcut | hcut | hcut
        all_goals
          (repeat' (first | refine ExL.val rJ rJ rJ rV ?_ | (first | refine Ex.seq ?_ | refine Ex.region ?_ | refine ExL.nil ?_ | refine thn_n ?_ | refine Ex.cond_t rJ ?_ | refine Ex.cond_f rJ ?_ | refine Ex.skip ?_ | refine Ex.block ?_ | refine Ex.exit ?_ | refine Ex.ret ?_ | refine thn_exit ?_ | refine thn_ret ?_ | refine inb_n ?_ | refine inb_hit rJ ?_ | refine inb_miss rJ ?_ | refine inb_ret ?_ | refine rnd_exit ?_ | refine rnd_ret ?_ | refine meet_ret ?_ | refine meet_exit ?_) | (apply exlGuard; first | refine ExL.gskip rJ rJ rJ rJ rJ rJ ?_ | refine ExL.gtake rJ rJ rJ rJ ?_ | refine ExL.gskipU rJ rJ rJ rJ ?_ | (refine ExL.gsplit rJ rJ rJ (fun h => ?_) (fun h => ?_) <;> try (exfalso; omega))) | (first | refine st_new_ rJ rE (fun g => ?_) | refine st_boxA rJ rJ (fun g => ?_) | refine st_box1 rJ rE rN (fun g => ?_) | (apply exlStore; first | refine st_store1_ _ rJ rK rE rN rJ rJ rE rE ?_ | refine st_storeW_ _ rJ rK rJ rC rJ rJ rJ rE ?_ | refine st_storeR _ rJ rK rJ rE rJ rJ rE ?_ | refine st_storeA_ _ rJ rK rJ rC rJ rJ rJ rE rE ?_ | refine st_storeB _ rJ rJ rO rO rK rJ rO ?_ | refine st_storeG _ rJ rK rE rN rJ rO (fun cs hcs => ?_)) | refine st_slice0 rJ rJ rJ rJ (fun g => ?_) | refine st_slice1T rJ rJ rJ rJ (fun g => ?_) | refine st_makeT rJ rJ rJ rJ rE rJ rO rO (fun v o => ?_) | (apply exlCopy; first | refine st_copyW _ rJ rE rK rE rD rJ rE rJ (fun zs hzs => ?_) | refine st_copyS _ rJ rJ rK rE rD rJ rE rJ rO rO (fun zs hzs => ?_)) | refine st_sliceB rJ rJ rJ rJ rJ rJ rJ rL rE rE rJ (fun g => ?_) | refine st_slice1I rJ rJ rJ rJ rJ rJ (fun g => ?_) | refine st_slice1B rJ rJ rJ rJ rJ rJ rO rO (fun g => ?_) | refine st_slice1S rJ rJ rJ rJ rJ rJ (fun g => ?_) | refine st_slice2B rJ rJ rJ rJ rJ rJ rJ rO rO rO rO (fun g => ?_) | (apply exlConv; first | refine st_bytes rJ rJ rJ rJ rJ rO (fun v o => ?_) | refine st_mark _ rJ rJ rK rJ rJ rJ ?_) | refine st_clear _ (0 : UInt8) rJ rK rJ rJ rJ rJ rJ rO ?_ | refine st_clearT _ rJ rK rO rJ rJ rO rE ?_ | (apply exlAppend; first | refine st_app0 rJ rJ rE rD rJ rE rJ rE rJ rJ rJ rO (fun v o => ?_) | refine st_app _ rJ rE rK rE rD rJ rE rJ rE rJ rJ rJ rO (fun v o => ?_) | refine st_shift _ rJ rJ rJ rK rO rJ rJ rJ rO rO rE ?_)) | (refine Ex.cond_d rJ (fun h => ?_) (fun h => ?_) <;> try (exfalso; omega))))
          exact HC _ _ ⟨_, rB, v10, b, by omega, hbw, o10, rfl, rfl⟩
  · intro HC
    (repeat' (first | refine ExL.val rJ rJ rJ rV ?_ | (first | refine Ex.seq ?_ | refine Ex.region ?_ | refine ExL.nil ?_ | refine thn_n ?_ | refine Ex.cond_t rJ ?_ | refine Ex.cond_f rJ ?_ | refine Ex.skip ?_ | refine Ex.block ?_ | refine Ex.exit ?_ | refine Ex.ret ?_ | refine thn_exit ?_ | refine thn_ret ?_ | refine inb_n ?_ | refine inb_hit rJ ?_ | refine inb_miss rJ ?_ | refine inb_ret ?_ | refine rnd_exit ?_ | refine rnd_ret ?_ | refine meet_ret ?_ | refine meet_exit ?_) | (apply exlGuard; first | refine ExL.gskip rJ rJ rJ rJ rJ rJ ?_ | refine ExL.gtake rJ rJ rJ rJ ?_ | refine ExL.gskipU rJ rJ rJ rJ ?_ | (refine ExL.gsplit rJ rJ rJ (fun h => ?_) (fun h => ?_) <;> try (exfalso; omega))) | (first | refine st_new_ rJ rE (fun g => ?_) | refine st_boxA rJ rJ (fun g => ?_) | refine st_box1 rJ rE rN (fun g => ?_) | (apply exlStore; first | refine st_store1_ _ rJ rK rE rN rJ rJ rE rE ?_ | refine st_storeW_ _ rJ rK rJ rC rJ rJ rJ rE ?_ | refine st_storeR _ rJ rK rJ rE rJ rJ rE ?_ | refine st_storeA_ _ rJ rK rJ rC rJ rJ rJ rE rE ?_ | refine st_storeB _ rJ rJ rO rO rK rJ rO ?_ | refine st_storeG _ rJ rK rE rN rJ rO (fun cs hcs => ?_)) | refine st_slice0 rJ rJ rJ rJ (fun g => ?_) | refine st_slice1T rJ rJ rJ rJ (fun g => ?_) | refine st_makeT rJ rJ rJ rJ rE rJ rO rO (fun v o => ?_) | (apply exlCopy; first | refine st_copyW _ rJ rE rK rE rD rJ rE rJ (fun zs hzs => ?_) | refine st_copyS _ rJ rJ rK rE rD rJ rE rJ rO rO (fun zs hzs => ?_)) | refine st_sliceB rJ rJ rJ rJ rJ rJ rJ rL rE rE rJ (fun g => ?_) | refine st_slice1I rJ rJ rJ rJ rJ rJ (fun g => ?_) | refine st_slice1B rJ rJ rJ rJ rJ rJ rO rO (fun g => ?_) | refine st_slice1S rJ rJ rJ rJ rJ rJ (fun g => ?_) | refine st_slice2B rJ rJ rJ rJ rJ rJ rJ rO rO rO rO (fun g => ?_) | (apply exlConv; first | refine st_bytes rJ rJ rJ rJ rJ rO (fun v o => ?_) | refine st_mark _ rJ rJ rK rJ rJ rJ ?_) | refine st_clear _ (0 : UInt8) rJ rK rJ rJ rJ rJ rJ rO ?_ | refine st_clearT _ rJ rK rO rJ rJ rO rE ?_ | (apply exlAppend; first | refine st_app0 rJ rJ rE rD rJ rE rJ rE rJ rJ rJ rO (fun v o => ?_) | refine st_app _ rJ rE rK rE rD rJ rE rJ rE rJ rJ rJ rO (fun v o => ?_) | refine st_shift _ rJ rJ rJ rK rO rJ rJ rJ rO rO rE ?_)) | (refine Ex.cond_d rJ (fun h => ?_) (fun h => ?_) <;> try (exfalso; omega))))
    revert g
    intro gb
    revert g
    intro ga
    refine Ex.sub (L' := StG (.slice (some ⟨ga, 0, none⟩) 0 0) [] (.slice (some ⟨gb, 0, none⟩) 0 0) [] v8 w W) ?_ (Sub.trans (Sub.empty (α := Ev) (some ⟨ga, 0, none⟩) 32 _) (Sub.trans (Sub.empty (α := Ev) (some ⟨gb, 0, none⟩) 32 _) rB))
    refine Ex.loop [9, 11] (fun m vs L' => ∃ (i : Nat) (v9 : Value) (a : List Ev), i ≤ 30 ∧ m = 30 - i ∧ a.length = i ∧ (∀ e ∈ a, e ∈ w) ∧ v9.oneCell' = true ∧ vs = [v9, .int .i64 i] ∧ L' = StG v9 a (.slice (some ⟨gb, 0, none⟩) 0 0) [] v8 w W) 30 ⟨0, _, [], by omega, rfl, rfl, by simp, rfl, rfl, rfl⟩ ?_
    rintro m vs g2 L' ⟨i, v9, a, hi, rfl, hal, haw, o9, rfl, rfl⟩
    refine Ex.keep [1, 2, 7, 8, 9, 10, 11] rG (fun gk => ?_)
    by_cases hlt : i < px.length ∧ i < 30 ∧ 0 < w.length
    · obtain ⟨h1, h2, h3⟩ := hlt
      have hm0 := Int.emod_nonneg ((px[i]'h1).toNat : Int) (show (w.length : Int) ≠ 0 by omega)
      have hm1 := Int.emod_lt_of_pos ((px[i]'h1).toNat : Int) (show (0 : Int) < w.length by omega)
      have hb := (px[i]'h1).toNat_lt
      (repeat' (first | refine ExL.val rJ rJ rJ rV ?_ | (first | refine Ex.seq ?_ | refine Ex.region ?_ | refine ExL.nil ?_ | refine thn_n ?_ | refine Ex.cond_t rJ ?_ | refine Ex.cond_f rJ ?_ | refine Ex.skip ?_ | refine Ex.block ?_ | refine Ex.exit ?_ | refine Ex.ret ?_ | refine thn_exit ?_ | refine thn_ret ?_ | refine inb_n ?_ | refine inb_hit rJ ?_ | refine inb_miss rJ ?_ | refine inb_ret ?_ | refine rnd_exit ?_ | refine rnd_ret ?_ | refine meet_ret ?_ | refine meet_exit ?_) | (apply exlGuard; first | refine ExL.gskip rJ rJ rJ rJ rJ rJ ?_ | refine ExL.gtake rJ rJ rJ rJ ?_ | refine ExL.gskipU rJ rJ rJ rJ ?_ | (refine ExL.gsplit rJ rJ rJ (fun h => ?_) (fun h => ?_) <;> try (exfalso; omega))) | (first | refine st_new_ rJ rE (fun g => ?_) | refine st_boxA rJ rJ (fun g => ?_) | refine st_box1 rJ rE rN (fun g => ?_) | (apply exlStore; first | refine st_store1_ _ rJ rK rE rN rJ rJ rE rE ?_ | refine st_storeW_ _ rJ rK rJ rC rJ rJ rJ rE ?_ | refine st_storeR _ rJ rK rJ rE rJ rJ rE ?_ | refine st_storeA_ _ rJ rK rJ rC rJ rJ rJ rE rE ?_ | refine st_storeB _ rJ rJ rO rO rK rJ rO ?_ | refine st_storeG _ rJ rK rE rN rJ rO (fun cs hcs => ?_)) | refine st_slice0 rJ rJ rJ rJ (fun g => ?_) | refine st_slice1T rJ rJ rJ rJ (fun g => ?_) | refine st_makeT rJ rJ rJ rJ rE rJ rO rO (fun v o => ?_) | (apply exlCopy; first | refine st_copyW _ rJ rE rK rE rD rJ rE rJ (fun zs hzs => ?_) | refine st_copyS _ rJ rJ rK rE rD rJ rE rJ rO rO (fun zs hzs => ?_)) | refine st_sliceB rJ rJ rJ rJ rJ rJ rJ rL rE rE rJ (fun g => ?_) | refine st_slice1I rJ rJ rJ rJ rJ rJ (fun g => ?_) | refine st_slice1B rJ rJ rJ rJ rJ rJ rO rO (fun g => ?_) | refine st_slice1S rJ rJ rJ rJ rJ rJ (fun g => ?_) | refine st_slice2B rJ rJ rJ rJ rJ rJ rJ rO rO rO rO (fun g => ?_) | (apply exlConv; first | refine st_bytes rJ rJ rJ rJ rJ rO (fun v o => ?_) | refine st_mark _ rJ rJ rK rJ rJ rJ ?_) | refine st_clear _ (0 : UInt8) rJ rK rJ rJ rJ rJ rJ rO ?_ | refine st_clearT _ rJ rK rO rJ rJ rO rE ?_ | (apply exlAppend; first | refine st_app0 rJ rJ rE rD rJ rE rJ rE rJ rJ rJ rO (fun v o => ?_) | refine st_app _ rJ rE rK rE rD rJ rE rJ rE rJ rJ rJ rO (fun v o => ?_) | refine st_shift _ rJ rJ rJ rK rO rJ rJ rJ rO rO rE ?_)) | (refine Ex.cond_d rJ (fun h => ?_) (fun h => ?_) <;> try (exfalso; omega))))
      exact rnd_n ⟨30 - (i + 1), StG v (a ++ [w[(((px[i]'h1).toNat : Int) % (w.length : Int)).toNat]'(by omega)]) (.slice (some ⟨gb, 0, none⟩) 0 0) [] v8 w W, by omega, rB, i + 1, v, _, by omega, rfl, by simp [hal], pick_mem haw (k := (((px[i]'h1).toNat : Int) % (w.length : Int)).toNat) (by omega), by assumption, lcons rfl (lcons (vint (by omega)) rfl), rfl⟩
    · have hcut : px.length ≤ i ∨ (i < px.length ∧ 30 ≤ i) ∨ (i < px.length ∧ i < 30 ∧ w.length = 0) := by omega
      rcases hcut with hcut | hcut | hcut
      all_goals
        (repeat' (first | refine ExL.val rJ rJ rJ rV ?_ | (first | refine Ex.seq ?_ | refine Ex.region ?_ | refine ExL.nil ?_ | refine thn_n ?_ | refine Ex.cond_t rJ ?_ | refine Ex.cond_f rJ ?_ | refine Ex.skip ?_ | refine Ex.block ?_ | refine Ex.exit ?_ | refine Ex.ret ?_ | refine thn_exit ?_ | refine thn_ret ?_ | refine inb_n ?_ | refine inb_hit rJ ?_ | refine inb_miss rJ ?_ | refine inb_ret ?_ | refine rnd_exit ?_ | refine rnd_ret ?_ | refine meet_ret ?_ | refine meet_exit ?_) | (apply exlGuard; first | refine ExL.gskip rJ rJ rJ rJ rJ rJ ?_ | refine ExL.gtake rJ rJ rJ rJ ?_ | refine ExL.gskipU rJ rJ rJ rJ ?_ | (refine ExL.gsplit rJ rJ rJ (fun h => ?_) (fun h => ?_) <;> try (exfalso; omega))) | (first | refine st_new_ rJ rE (fun g => ?_) | refine st_boxA rJ rJ (fun g => ?_) | refine st_box1 rJ rE rN (fun g => ?_) | (apply exlStore; first | refine st_store1_ _ rJ rK rE rN rJ rJ rE rE ?_ | refine st_storeW_ _ rJ rK rJ rC rJ rJ rJ rE ?_ | refine st_storeR _ rJ rK rJ rE rJ rJ rE ?_ | refine st_storeA_ _ rJ rK rJ rC rJ rJ rJ rE rE ?_ | refine st_storeB _ rJ rJ rO rO rK rJ rO ?_ | refine st_storeG _ rJ rK rE rN rJ rO (fun cs hcs => ?_)) | refine st_slice0 rJ rJ rJ rJ (fun g => ?_) | refine st_slice1T rJ rJ rJ rJ (fun g => ?_) | refine st_makeT rJ rJ rJ rJ rE rJ rO rO (fun v o => ?_) | (apply exlCopy; first | refine st_copyW _ rJ rE rK rE rD rJ rE rJ (fun zs hzs => ?_) | refine st_copyS _ rJ rJ rK rE rD rJ rE rJ rO rO (fun zs hzs => ?_)) | refine st_sliceB rJ rJ rJ rJ rJ rJ rJ rL rE rE rJ (fun g => ?_) | refine st_slice1I rJ rJ rJ rJ rJ rJ (fun g => ?_) | refine st_slice1B rJ rJ rJ rJ rJ rJ rO rO (fun g => ?_) | refine st_slice1S rJ rJ rJ rJ rJ rJ (fun g => ?_) | refine st_slice2B rJ rJ rJ rJ rJ rJ rJ rO rO rO rO (fun g => ?_) | (apply exlConv; first | refine st_bytes rJ rJ rJ rJ rJ rO (fun v o => ?_) | refine st_mark _ rJ rJ rK rJ rJ rJ ?_) | refine st_clear _ (0 : UInt8) rJ rK rJ rJ rJ rJ rJ rO ?_ | refine st_clearT _ rJ rK rO rJ rJ rO rE ?_ | (apply exlAppend; first | refine st_app0 rJ rJ rE rD rJ rE rJ rE rJ rJ rJ rO (fun v o => ?_) | refine st_app _ rJ rE rK rE rD rJ rE rJ rE rJ rJ rJ rO (fun v o => ?_) | refine st_shift _ rJ rJ rJ rK rO rJ rJ rJ rO rO rE ?_)) | (refine Ex.cond_d rJ (fun h => ?_) (fun h => ?_) <;> try (exfalso; omega))))
        exact HC _ _ ⟨_, rB, v9, v9, a, gb, by omega, haw, o9, rfl, rfl⟩
end Go.Proofs.Ytmjpdibjdgjhgaa
/- Events among the arguments. No condition. -/
namespace Go.Proofs.Ytmjpdibjdgjhgaa
open Go.ChangeShapes Go.WideShapes Go.ChangeAt Go.RowKit
set_option linter.unusedSimpArgs false
set_option linter.unusedVariables false
set_option maxRecDepth 20000
/-- A text. -/
theorem okT_txt {H : Type} {enc : TypeId × Value → H} {P : Program} {w : World} {t : TypeId} {cs : List Value} (hu : P.underlying t = some .string) (h : OkT enc P w t cs) : ∃ l : List UInt8, cs = [.string (S l)] ∧ l.length ≤ 140737488351232 := by
  obtain ⟨l, e, h⟩ := okT_string hu h
  exact ⟨l, e, by unfold reachBytes at h; omega⟩
/-- What is known of an event that came in. -/
structure Ev.Ok (e : Ev) : Prop where
  r : I64 e.r
  n : I64 e.n
  c : I64 e.c.a ∧ I64 e.c.b ∧ I64 e.c.c ∧ I64 e.c.d ∧ I64 e.c.e
  h : I64 e.h
  kind : I64 e.ed.kind
  label : I64 e.ed.label
  key : e.ed.key.length ≤ 140737488351232
  value : e.ed.value.length ≤ 140737488351232
theorem okT_ev {H : Type} {enc : TypeId × Value → H} {w : World} {cs : List Value} (h : OkT enc Try.prog w 32 cs) : ∃ e : Ev, cs = Rep.cells e ∧ e.Ok := by
  obtain ⟨hl, hf⟩ := okT_struct Try.underlying32 h
  have hl : cs.length = 12 := hl
  obtain ⟨r, e1, i1⟩ := okT_i64 (by kernel_rfl) (hf 0 _ rfl)
  obtain ⟨n, e2, i2⟩ := okT_i64 (by kernel_rfl) (hf 1 _ rfl)
  obtain ⟨xs, e3, i3, i4⟩ := okT_arrayL (α := Int) (e := 3) (n := 5) (fun n => I64 n) (by kernel_rfl) (by kernel_rfl) (by kernel_rfl) (fun ecs h => by obtain ⟨n, e, i⟩ := okT_i64 (by kernel_rfl) h; exact ⟨n, e, i⟩) (hf 2 _ rfl)
  obtain ⟨hh, e4, i5⟩ := okT_i64 (by kernel_rfl) (hf 3 _ rfl)
  obtain ⟨k, e5, i6⟩ := okT_i64 (by kernel_rfl) (hf 4 _ rfl)
  obtain ⟨key, e6, i7⟩ := okT_txt (by kernel_rfl) (hf 5 _ rfl)
  obtain ⟨lb, e7, i8⟩ := okT_i64 (by kernel_rfl) (hf 6 _ rfl)
  obtain ⟨val, e8, i9⟩ := okT_txt (by kernel_rfl) (hf 7 _ rfl)
  match cs, hl, xs, i3 with
  | [x0, x1, x2, x3, x4, x5, x6, x7, x8, x9, x10, x11], _, [c0, c1, c2, c3, c4], _ =>
    have e1 : [x0] = [Value.int .i64 r] := e1
    have e2 : [x1] = [Value.int .i64 n] := e2
    have e3 : [x2, x3, x4, x5, x6] = [Value.int .i64 c0, Value.int .i64 c1, Value.int .i64 c2, Value.int .i64 c3, Value.int .i64 c4] := e3
    have e4 : [x7] = [Value.int .i64 hh] := e4
    have e5 : [x8] = [Value.int .i64 k] := e5
    have e6 : [x9] = [Value.string (S key)] := e6
    have e7 : [x10] = [Value.int .i64 lb] := e7
    have e8 : [x11] = [Value.string (S val)] := e8
    cases e1; cases e2; cases e3; cases e4; cases e5; cases e6; cases e7; cases e8
    exact ⟨⟨r, n, ⟨c0, c1, c2, c3, c4⟩, hh, ⟨k, key, lb, val⟩⟩, rfl, i1, i2, ⟨i4 c0 (by simp), i4 c1 (by simp), i4 c2 (by simp), i4 c3 (by simp), i4 c4 (by simp)⟩, i5, i6, i8, i7, i9⟩
/-- A slice of events. -/
theorem okT_evs {H : Type} {enc : TypeId × Value → H} {w : World} {cs : List Value} (h : OkT enc Try.prog w 24 cs) :
    ∃ v, ∃ l : List Ev, cs = [v] ∧ v.oneCell' = true ∧ Sl w v 12 l.length (cellsOf l) ∧ (∀ e ∈ l, e.Ok) ∧ l.length ≤ 140737488351232 := by
  obtain ⟨v, xs, h1, h2, h3, h4, h5⟩ := okT_list (α := Ev) Ev.Ok Try.underlying24 (by kernel_rfl) (fun ecs h => okT_ev h) h
  refine ⟨v, xs, h1, h2, h3, h4, ?_⟩
  have hb : Try.prog.bytesOf 32 = 112 := by kernel_rfl
  rw [hb] at h5
  simp [reachBytes] at h5
  omega
end Go.Proofs.Ytmjpdibjdgjhgaa
/- Clocks among the arguments. No condition. -/
namespace Go.Proofs.Ytmjpdibjdgjhgaa
open Go.ChangeShapes Go.WideShapes Go.ChangeAt Go.RowKit
set_option linter.unusedSimpArgs false
set_option linter.unusedVariables false
theorem okT_clk {H : Type} {enc : TypeId × Value → H} {P : Program} {w : World} {t e : TypeId} {cs : List Value} (hu : P.underlying t = some (.array 5 e)) (hc : P.cellsOf t = 5) (hu2 : P.underlying e = some (.int .i64)) (hc2 : P.cellsOf e = 1) (h : OkT enc P w t cs) : ∃ c : Clk, cs = Rep.cells c ∧ c.I := by
  obtain ⟨xs, e, hl, hg⟩ := okT_arrayL (α := Int) I64 hu (by rw [hc2]; rfl) (by rw [hc]; rfl) (fun ecs h => okT_i64 hu2 h) h
  match xs, hl with
  | [a, b, c, d, f], _ => exact ⟨⟨a, b, c, d, f⟩, e, fun i hi => by
      match i, hi with
      | 0, _ => exact hg a (by simp)
      | 1, _ => exact hg b (by simp)
      | 2, _ => exact hg c (by simp)
      | 3, _ => exact hg d (by simp)
      | 4, _ => exact hg f (by simp)⟩
end Go.Proofs.Ytmjpdibjdgjhgaa
/- More kinds of arguments. No condition. -/
namespace Go.Proofs.Ytmjpdibjdgjhgaa
open Go.ChangeShapes Go.WideShapes Go.ChangeAt Go.RowKit
set_option linter.unusedSimpArgs false
set_option linter.unusedVariables false
/-- Two bytes. -/
structure B2 where
  x : UInt8
  y : UInt8
instance : Rep B2 := ⟨2, fun b => [.int .u8 b.x.toNat, .int .u8 b.y.toNat], by decide, fun _ => rfl, fun _ => rfl⟩
section
variable {H : Type} {enc : TypeId × Value → H} {P : Program} {w : World} {t : TypeId} {cs : List Value}
theorem okT_b2s {e e2 : TypeId} (hu : P.underlying t = some (.slice e)) (hs : P.cellsOf e = 2) (hb : P.bytesOf e = 2) (ha : P.underlying e = some (.array 2 e2)) (h2 : P.underlying e2 = some (.int .u8)) (hs2 : P.cellsOf e2 = 1) (h : OkT enc P w t cs) :
    ∃ v, ∃ l : List B2, cs = [v] ∧ v.oneCell' = true ∧ Sl w v 2 l.length (cellsOf l) ∧ l.length ≤ 140737488355328 := by
  obtain ⟨v, xs, h1, h2, h3, h4, h5⟩ := okT_list (α := B2) (fun _ => True) hu (by rw [hs]; rfl) (fun ecs h => by
    obtain ⟨xs, e, hl, _⟩ := okT_arrayL (α := UInt8) (fun _ => True) ha (by rw [hs2]; rfl) (by rw [hs]; rfl) (fun ecs h => okT_u8 h2 h) h
    match xs, hl with
    | [a, b], _ => exact ⟨⟨a, b⟩, e, trivial⟩) h
  rw [hb] at h5
  exact ⟨v, xs, h1, h2, h3, by simp [reachBytes] at h5; omega⟩
theorem okT_bl (hu : P.underlying t = some .bool) (h : OkT enc P w t cs) : ∃ b : Bool, cs = Rep.cells b ∧ True := by
  obtain ⟨b, e⟩ := okT_bool hu h
  exact ⟨b, e, trivial⟩
theorem okT_bools {e : TypeId} (hu : P.underlying t = some (.slice e)) (hs : P.cellsOf e = 1) (hb : P.bytesOf e = 1) (he : P.underlying e = some .bool) (h : OkT enc P w t cs) :
    ∃ v, ∃ l : List Bool, cs = [v] ∧ v.oneCell' = true ∧ Sl w v 1 l.length (cellsOf l) ∧ l.length ≤ 140737488355328 := by
  obtain ⟨v, xs, h1, h2, h3, h4, h5⟩ := okT_list (α := Bool) (fun _ => True) hu (by rw [hs]; rfl) (fun ecs h => okT_bl he h) h
  rw [hb] at h5
  exact ⟨v, xs, h1, h2, h3, by simp [reachBytes] at h5; omega⟩
theorem okT_u16i (hu : P.underlying t = some (.int .u16)) (h : OkT enc P w t cs) : ∃ n : Int, cs = [.int .u16 n] ∧ 0 ≤ n ∧ n ≤ 65535 := by
  obtain ⟨n, e, h⟩ := okT_int hu h
  have := bounds_u16 h
  exact ⟨n, e, by omega, by omega⟩
theorem okT_u32i (hu : P.underlying t = some (.int .u32)) (h : OkT enc P w t cs) : ∃ n : Int, cs = [.int .u32 n] ∧ 0 ≤ n ∧ n ≤ 4294967295 := by
  obtain ⟨n, e, h⟩ := okT_int hu h
  have := bounds_u32 h
  exact ⟨n, e, by omega, by omega⟩
theorem okT_boolv (hu : P.underlying t = some .bool) (h : OkT enc P w t cs) : ∃ b : Bool, cs = [.bool b] ∧ True := by
  obtain ⟨b, e⟩ := okT_bool hu h
  exact ⟨b, e, trivial⟩
theorem okT_3u8 {e : TypeId} (hu : P.underlying t = some (.array 3 e)) (hc : P.cellsOf t = 3) (hu2 : P.underlying e = some (.int .u8)) (hc2 : P.cellsOf e = 1) (h : OkT enc P w t cs) : ∃ a b c : UInt8, cs = [.int .u8 a.toNat, .int .u8 b.toNat, .int .u8 c.toNat] := by
  obtain ⟨xs, e, hl, _⟩ := okT_arrayL (α := UInt8) (fun _ => True) hu (by rw [hc2]; rfl) (by rw [hc]; rfl) (fun ecs h => okT_u8 hu2 h) h
  match xs, hl with
  | [a, b, c], _ => exact ⟨a, b, c, e⟩
theorem okT_i64r (hu : P.underlying t = some (.int .i64)) (h : OkT enc P w t cs) : ∃ n : Int, cs = Rep.cells n ∧ I64 n := okT_i64 hu h
theorem okT_3int {e : TypeId} (hu : P.underlying t = some (.array 3 e)) (hc : P.cellsOf t = 3) (hu2 : P.underlying e = some (.int .i64)) (hc2 : P.cellsOf e = 1) (h : OkT enc P w t cs) : ∃ a b c : Int, cs = [.int .i64 a, .int .i64 b, .int .i64 c] ∧ I64 a ∧ I64 b ∧ I64 c := by
  obtain ⟨xs, e, hl, hg⟩ := okT_arrayL (α := Int) I64 hu (by rw [hc2]; rfl) (by rw [hc]; rfl) (fun ecs h => okT_i64r hu2 h) h
  match xs, hl with
  | [a, b, c], _ => exact ⟨a, b, c, e, hg a (by simp), hg b (by simp), hg c (by simp)⟩
end
end Go.Proofs.Ytmjpdibjdgjhgaa
/- Choices among the arguments. No condition. -/
namespace Go.Proofs.Ytmjpdibjdgjhgaa
open Go.ChangeShapes Go.WideShapes Go.ChangeAt Go.RowKit
set_option linter.unusedSimpArgs false
set_option linter.unusedVariables false
set_option maxRecDepth 20000
theorem okT_ed {H : Type} {enc : TypeId × Value → H} {w : World} {cs : List Value} (h : OkT enc Try.prog w 76 cs) : ∃ (k lb : Int) (key val : List UInt8), cs = [.int .i64 k, .string (S key), .int .i64 lb, .string (S val)] ∧ key.length ≤ 140737488351232 ∧ val.length ≤ 140737488351232 := by
  obtain ⟨hl, hf⟩ := okT_struct Try.underlying76 h
  have hl : cs.length = 4 := hl
  obtain ⟨k, e5, i6⟩ := okT_i64 (by kernel_rfl) (hf 0 _ rfl)
  obtain ⟨key, e6, i7⟩ := okT_txt (by kernel_rfl) (hf 1 _ rfl)
  obtain ⟨lb, e7, i8⟩ := okT_i64 (by kernel_rfl) (hf 2 _ rfl)
  obtain ⟨val, e8, i9⟩ := okT_txt (by kernel_rfl) (hf 3 _ rfl)
  match cs, hl with
  | [x4, x5, x6, x7], _ =>
    have e5 : [x4] = [Value.int .i64 k] := e5
    have e6 : [x5] = [Value.string (S key)] := e6
    have e7 : [x6] = [Value.int .i64 lb] := e7
    have e8 : [x7] = [Value.string (S val)] := e8
    cases e5; cases e6; cases e7; cases e8
    exact ⟨k, lb, key, val, rfl, i7, i9⟩
theorem okT_ch {H : Type} {enc : TypeId × Value → H} {w : World} {cs : List Value} (h : OkT enc Try.prog w 78 cs) : ∃ c : Ch, cs = Rep.cells c ∧ c.Ok := by
  obtain ⟨hl, hf⟩ := okT_struct Try.underlying78 h
  have hl : cs.length = 7 := hl
  obtain ⟨r, e1, i1, i2⟩ := okT_u8i (by kernel_rfl) (hf 0 _ rfl)
  obtain ⟨f, e2, i3, i4⟩ := okT_u8i (by kernel_rfl) (hf 1 _ rfl)
  obtain ⟨b, e3, _⟩ := okT_boolv (by kernel_rfl) (hf 2 _ rfl)
  obtain ⟨k, lb, key, val, e4, i5, i6⟩ := okT_ed (hf 3 _ rfl)
  match cs, hl with
  | [x1, x2, x3, x4, x5, x6, x7], _ =>
    have e1 : [x1] = [Value.int .u8 r] := e1
    have e2 : [x2] = [Value.int .u8 f] := e2
    have e3 : [x3] = [Value.bool b] := e3
    have e4 : [x4, x5, x6, x7] = [Value.int .i64 k, Value.string (S key), Value.int .i64 lb, Value.string (S val)] := e4
    cases e1; cases e2; cases e3; cases e4
    exact ⟨⟨r, f, b, ⟨k, key, lb, val⟩⟩, rfl, ⟨by omega, by omega⟩, ⟨by omega, by omega⟩, by show key.length ≤ _; omega, by show val.length ≤ _; omega⟩
theorem okT_chs {H : Type} {enc : TypeId × Value → H} {w : World} {cs : List Value} (h : OkT enc Try.prog w 35 cs) :
    ∃ v, ∃ l : List Ch, cs = [v] ∧ v.oneCell' = true ∧ Sl w v 7 l.length (cellsOf l) ∧ (∀ c ∈ l, c.Ok) ∧ l.length ≤ 140737488351232 := by
  obtain ⟨v, xs, h1, h2, h3, h4, h5⟩ := okT_list (α := Ch) Ch.Ok Try.underlying35 (by kernel_rfl) (fun ecs h => okT_ch h) h
  refine ⟨v, xs, h1, h2, h3, h4, ?_⟩
  have hb : Try.prog.bytesOf 78 = 56 := by kernel_rfl
  rw [hb] at h5
  simp [reachBytes] at h5
  omega
end Go.Proofs.Ytmjpdibjdgjhgaa
