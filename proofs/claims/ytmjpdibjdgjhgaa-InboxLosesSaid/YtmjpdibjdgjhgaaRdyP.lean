/- What is left of a drained list, in plain words. No condition. -/
import Derived.Test.YtmjpdibjdgjhgaaRdy2
namespace Go.Proofs.Ytmjpdibjdgjhgaa
open Go.RowKit
set_option linter.unusedSimpArgs false
set_option linter.unusedVariables false
theorem le_refl_clk (c : Clk) : c.le c = true := (Clk.le_iff c c).2 fun j _ => Int.le_refl _
theorem le_trans_clk {a b c : Clk} (h : a.le b = true) (k : b.le c = true) : a.le c = true :=
  (Clk.le_iff a c).2 fun j hj => Int.le_trans ((Clk.le_iff a b).1 h j hj) ((Clk.le_iff b c).1 k j hj)
theorem has_mono {a b : Clk} (h : a.le b = true) {r n : Int} (k : a.has r n = true) : b.has r n = true := by
  obtain ⟨h0, h1, h2, h3⟩ := (Clk.has_iff a r n).1 k
  exact (Clk.has_iff b r n).2 ⟨h0, h1, h2, Int.le_trans h3 ((Clk.le_iff a b).1 h _ (by omega))⟩
theorem rdy_le {c : Clk} {e : Ev} (h : e.rdy c) : c.le (c.set e.r.toNat e.n) = true := by
  obtain ⟨h0, h1, h2, h3, _⟩ := h
  refine (Clk.le_iff _ _).2 fun j hj => ?_
  rw [Clk.get_set _ _ _ _ (by omega)]
  split
  · rename_i hje; subst hje; omega
  · exact Int.le_refl _
theorem rdy_has {c : Clk} {e : Ev} (h : e.rdy c) : (c.set e.r.toNat e.n).has e.r e.n = true := by
  obtain ⟨h0, h1, h2, h3, _⟩ := h
  refine (Clk.has_iff _ _ _).2 ⟨h0, h1, h2, ?_⟩
  rw [Clk.get_set _ _ _ _ (by omega), if_pos rfl]
  exact Int.le_refl _
/-- Who was not seen, and has another mark, is not seen then. -/
theorem rdy_keep {c : Clk} {e x : Ev} (h : e.rdy c) (hx : c.has x.r x.n = false) (hne : x.mk_ ≠ e.mk_) : (c.set e.r.toNat e.n).has x.r x.n = false := by
  obtain ⟨h0, h1, h2, h3, _⟩ := h
  refine Clk.has_f fun ⟨k0, k1, k2, k3⟩ => ?_
  rw [Clk.get_set _ _ _ _ (by omega)] at k3
  split at k3
  · rename_i hre
    have hr : x.r = e.r := by omega
    have hn : x.n ≠ e.n := fun hn => hne (by simp only [Ev.mk_, hr, hn])
    have : c.has x.r x.n = true := (Clk.has_iff _ _ _).2 ⟨k0, k1, k2, by rw [hr]; omega⟩
    rw [this] at hx
    cases hx
  · have : c.has x.r x.n = true := (Clk.has_iff _ _ _).2 ⟨k0, k1, k2, k3⟩
    rw [this] at hx
    cases hx
theorem mem_erase_ne {l : List Ev} (hd : Dst l) {i : Nat} (hi : i < l.length) {x : Ev} (hx : x ∈ l.eraseIdx i) : x ∈ l ∧ x.mk_ ≠ (l[i]'hi).mk_ := by
  obtain ⟨j, hji, hj⟩ := List.mem_eraseIdx_iff_getElem?.1 hx
  obtain ⟨hjl, rfl⟩ := List.getElem?_eq_some_iff.1 hj
  exact ⟨List.getElem_mem hjl, fun h => hji (hd.inj hjl hi h)⟩
theorem drain_le (c : Clk) (l : List Ev) : Dst l → c.le (drain c l).2.2 = true := by
  refine drain_induct (motive := fun c l => Dst l → c.le (drain c l).2.2 = true) (fun c l h _ => ?_) (fun c l i hi h ih hd => ?_) c l
  · rw [drain_stop h]; exact le_refl_clk c
  · rw [drain_step hd hi h]
    exact le_trans_clk (rdy_le h.2.1) (ih (hd.erase i))
theorem drain_done (c : Clk) (l : List Ev) : Dst l → ∀ e ∈ (drain c l).1, (drain c l).2.2.has e.r e.n = true := by
  refine drain_induct (motive := fun c l => Dst l → ∀ e ∈ (drain c l).1, (drain c l).2.2.has e.r e.n = true) (fun c l h _ => ?_) (fun c l i hi h ih hd => ?_) c l
  · rw [drain_stop h]; intro e he; simp at he
  · rw [drain_step hd hi h]
    intro e he
    rcases List.mem_cons.1 he with rfl | he
    · exact has_mono (drain_le _ _ (hd.erase i)) (rdy_has h.2.1)
    · exact ih (hd.erase i) e he
theorem drain_left (c : Clk) (l : List Ev) : Dst l → (∀ e ∈ l, c.has e.r e.n = false) → ∀ e ∈ (drain c l).2.1, (drain c l).2.2.has e.r e.n = false := by
  refine drain_induct (motive := fun c l => Dst l → (∀ e ∈ l, c.has e.r e.n = false) → ∀ e ∈ (drain c l).2.1, (drain c l).2.2.has e.r e.n = false) (fun c l h _ hn => ?_) (fun c l i hi h ih hd hn => ?_) c l
  · rw [drain_stop h]; exact hn
  · rw [drain_step hd hi h]
    refine ih (hd.erase i) fun e he => ?_
    obtain ⟨h1, h2⟩ := mem_erase_ne hd hi he
    exact rdy_keep h.2.1 (hn e h1) h2
theorem drain_end (c : Clk) (l : List Ev) : Dst l → ∀ i, ¬ NextI (drain c l).2.2 (drain c l).2.1 i := by
  refine drain_induct (motive := fun c l => Dst l → ∀ i, ¬ NextI (drain c l).2.2 (drain c l).2.1 i) (fun c l h _ => ?_) (fun c l i hi h ih hd => ?_) c l
  · rw [drain_stop h]; exact h
  · rw [drain_step hd hi h]; exact ih (hd.erase i)
theorem drain_I (c : Clk) (l : List Ev) : Dst l → c.I → (∀ e ∈ l, I64 e.n) → (drain c l).2.2.I := by
  refine drain_induct (motive := fun c l => Dst l → c.I → (∀ e ∈ l, I64 e.n) → (drain c l).2.2.I) (fun c l h _ hc _ => ?_) (fun c l i hi h ih hd hc hl => ?_) c l
  · rw [drain_stop h]; exact hc
  · rw [drain_step hd hi h]
    have hr := h.2.1
    exact ih (hd.erase i) (hc.set (by have := hr.1; have := hr.2.1; omega) (hl _ (List.getElem_mem hi))) fun e he => hl e ((List.eraseIdx_sublist ..).subset he)
/-- How often a mark is there. -/
def cnt (k : Mk) (l : List Ev) : Nat := l.countP fun e => decide (e.mk_ = k)
theorem cnt_take (k : Mk) (l : List Ev) (i : Nat) (h : i < l.length) : cnt k (l.take (i + 1)) = cnt k (l.take i) + if (l[i]'h).mk_ = k then 1 else 0 := by
  unfold cnt
  rw [List.take_succ_eq_append_getElem h, List.countP_append]
  congr 1
  simp [List.countP_cons]
theorem cnt_erase (k : Mk) (l : List Ev) (i : Nat) (h : i < l.length) : cnt k l = (if (l[i]'h).mk_ = k then 1 else 0) + cnt k (l.eraseIdx i) := by
  unfold cnt
  have e : l = l.take i ++ l[i]'h :: l.drop (i + 1) := by rw [List.getElem_cons_drop, List.take_append_drop]
  rw [List.eraseIdx_eq_take_drop_succ]
  conv => lhs; rw [e]
  rw [List.countP_append, List.countP_append, List.countP_cons]
  simp only [decide_eq_true_eq]
  omega
theorem drain_cnt (k : Mk) (c : Clk) (l : List Ev) : Dst l → cnt k (drain c l).1 + cnt k (drain c l).2.1 = cnt k l := by
  refine drain_induct (motive := fun c l => Dst l → cnt k (drain c l).1 + cnt k (drain c l).2.1 = cnt k l) (fun c l h _ => ?_) (fun c l i hi h ih hd => ?_) c l
  · rw [drain_stop h]; simp [cnt]
  · rw [drain_step hd hi h, cnt_erase k l i hi]
    have := ih (hd.erase i)
    have e : ∀ (a : Ev) (t : List Ev), cnt k (a :: t) = (if a.mk_ = k then 1 else 0) + cnt k t := fun a t => by
      unfold cnt
      rw [List.countP_cons]
      simp only [decide_eq_true_eq]
      omega
    show cnt k ((l[i]'hi) :: (drain (c.set (l[i]'hi).r.toNat (l[i]'hi).n) (l.eraseIdx i)).1) + cnt k (drain (c.set (l[i]'hi).r.toNat (l[i]'hi).n) (l.eraseIdx i)).2.1 = _
    rw [e]
    omega
theorem cnt_le_one {l : List Ev} (hd : Dst l) (k : Mk) : cnt k l ≤ 1 := by
  induction l with
  | nil => simp [cnt]
  | cons a l ih =>
    have h2 := List.pairwise_cons.1 hd
    unfold cnt at ih ⊢
    rw [List.countP_cons]
    split
    · rename_i hk
      have : l.countP (fun e => decide (e.mk_ = k)) = 0 := List.countP_eq_zero.2 fun x hx => by
        have := h2.1 x hx
        rw [of_decide_eq_true hk] at this
        simpa using fun h : x.mk_ = k => this h.symm
      omega
    · have := ih h2.2; omega
/-- Each mark of a list is there once behind, if it was not seen; else not at all. -/
theorem closed_cnt (c : Clk) (w : List Ev) (x : Ev) (hx : x ∈ w) : cnt x.mk_ (drain c (freshL c w)).1 + cnt x.mk_ (drain c (freshL c w)).2.1 = if c.has x.r x.n = true then 0 else 1 := by
  have hd : Dst (freshL c w) := freshL_dst c w [] List.Pairwise.nil
  rw [drain_cnt _ _ _ hd]
  cases hh : c.has x.r x.n
  · rw [if_neg (by simp)]
    have h1 := cnt_le_one hd x.mk_
    have h2 : ((freshL c w).any fun y => decide (y.mk_ = x.mk_)) = true := by
      rw [freshL_any c w x hh]
      exact List.any_eq_true.2 ⟨x, hx, decide_eq_true rfl⟩
    have h3 : 0 < cnt x.mk_ (freshL c w) := by
      unfold cnt
      rw [List.countP_pos_iff]
      obtain ⟨y, hy, hyx⟩ := List.any_eq_true.1 h2
      exact ⟨y, hy, hyx⟩
    omega
  · rw [if_pos rfl]
    unfold cnt
    refine List.countP_eq_zero.2 fun y hy => ?_
    have h1 := freshL_has c w y hy
    intro h
    have h := of_decide_eq_true h
    have e1 : y.r = x.r := congrArg Mk.r h
    have e2 : y.n = x.n := congrArg Mk.n h
    rw [e1, e2, hh] at h1
    cases h1
theorem freshL_id {c : Clk} {l : List Ev} (hd : Dst l) (h : ∀ e ∈ l, c.has e.r e.n = false) : freshL c l = l := by
  have key : ∀ (l acc : List Ev), Dst (acc ++ l) → (∀ e ∈ l, c.has e.r e.n = false) → l.foldl (freshS c) acc = acc ++ l := by
    intro l
    induction l with
    | nil => intro acc _ _; simp
    | cons a l ih =>
      intro acc hd h
      have hs : freshS c acc a = acc ++ [a] := by
        unfold freshS
        rw [if_neg]
        rintro (hx | hx)
        · obtain ⟨y, hy, hya⟩ := List.any_eq_true.1 hx
          exact (List.pairwise_append.1 hd).2.2 y hy a (by simp) (of_decide_eq_true hya)
        · rw [h a (by simp)] at hx; cases hx
      rw [List.foldl_cons, hs, ih (acc ++ [a]) (by simpa using hd) (fun e he => h e (List.mem_cons_of_mem _ he))]
      simp
  exact key l [] hd h
theorem drain_again (c : Clk) (w : List Ev) : drain (drain c (freshL c w)).2.2 (freshL (drain c (freshL c w)).2.2 (drain c (freshL c w)).2.1) = ([], (drain c (freshL c w)).2.1, (drain c (freshL c w)).2.2) := by
  have hd : Dst (freshL c w) := freshL_dst c w [] List.Pairwise.nil
  rw [freshL_id (hd.sublist (drain_sub _ _ hd)) (drain_left _ _ hd (freshL_has c w))]
  exact drain_stop (drain_end _ _ hd)
end Go.Proofs.Ytmjpdibjdgjhgaa
