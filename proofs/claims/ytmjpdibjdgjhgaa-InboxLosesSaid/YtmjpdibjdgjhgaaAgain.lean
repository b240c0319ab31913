/- What was drained, drained once more, in plain words. No condition. -/
import Derived.Test.YtmjpdibjdgjhgaaRdyP
namespace Go.Proofs.Ytmjpdibjdgjhgaa
open Go.RowKit
set_option linter.unusedSimpArgs false
set_option linter.unusedVariables false
theorem freshL_above {c d : Clk} (h : c.le d = true) (l : List Ev) : freshL d l = (freshL c l).filter fun e => !d.has e.r e.n := by
  have key : ∀ (l acc : List Ev), l.foldl (freshS d) (acc.filter fun e => !d.has e.r e.n) = (l.foldl (freshS c) acc).filter fun e => !d.has e.r e.n := by
    intro l
    induction l with
    | nil => intro acc; rfl
    | cons e l ih =>
      intro acc
      have hs : freshS d (acc.filter fun e => !d.has e.r e.n) e = (freshS c acc e).filter fun e => !d.has e.r e.n := by
        unfold freshS
        cases hd : d.has e.r e.n
        · have hc : c.has e.r e.n = false := by
            cases hc : c.has e.r e.n
            · rfl
            · rw [has_mono h hc] at hd; cases hd
          by_cases ha : (acc.any fun x => decide (x.mk_ = e.mk_)) = true
          · have hb : ((acc.filter fun e => !d.has e.r e.n).any fun x => decide (x.mk_ = e.mk_)) = true := by
              obtain ⟨y, hy, hye⟩ := List.any_eq_true.1 ha
              have hm := of_decide_eq_true hye
              have h1 : y.r = e.r := congrArg Mk.r hm
              have h2 : y.n = e.n := congrArg Mk.n hm
              exact List.any_eq_true.2 ⟨y, List.mem_filter.2 ⟨hy, by simp only [h1, h2, hd]; rfl⟩, hye⟩
            rw [if_pos (.inl hb), if_pos (.inl ha)]
          · have hb : ¬ ((acc.filter fun e => !d.has e.r e.n).any fun x => decide (x.mk_ = e.mk_)) = true := fun hx => by
              obtain ⟨y, hy, hye⟩ := List.any_eq_true.1 hx
              exact ha (List.any_eq_true.2 ⟨y, (List.mem_filter.1 hy).1, hye⟩)
            rw [if_neg (by rintro (x | x); exact hb x; cases x), if_neg (by rintro (x | x); exact ha x; rw [hc] at x; cases x), List.filter_append]
            simp [hd]
        · rw [if_pos (.inr rfl)]
          split
          · rfl
          · rw [List.filter_append]; simp [hd]
      rw [List.foldl_cons, List.foldl_cons, hs, ih]
  have := key l []
  simpa [freshL] using this
theorem drain_left_eq (c : Clk) (l : List Ev) (hd : Dst l) (hn : ∀ e ∈ l, c.has e.r e.n = false) : (drain c l).2.1 = l.filter fun e => !(drain c l).2.2.has e.r e.n := by
  have hs := filter_sub (drain_sub c l hd) hd
  conv => lhs; rw [← hs]
  refine List.filter_congr fun e he => ?_
  have hcnt := drain_cnt e.mk_ c l hd
  have h1 : 0 < cnt e.mk_ l := List.countP_pos_iff.2 ⟨e, he, decide_eq_true rfl⟩
  cases ha : ((drain c l).2.1.any fun x => decide (x.mk_ = e.mk_))
  · have h2 : cnt e.mk_ (drain c l).2.1 = 0 := List.countP_eq_zero.2 fun x hx hxe => by
      rw [List.any_eq_false] at ha
      exact ha x hx hxe
    have h3 : 0 < cnt e.mk_ (drain c l).1 := by omega
    obtain ⟨y, hy, hye⟩ := List.countP_pos_iff.1 h3
    have hm := of_decide_eq_true hye
    have e1 : y.r = e.r := congrArg Mk.r hm
    have e2 : y.n = e.n := congrArg Mk.n hm
    have := drain_done c l hd y hy
    rw [e1, e2] at this
    rw [this]; rfl
  · obtain ⟨y, hy, hye⟩ := List.any_eq_true.1 ha
    have hm := of_decide_eq_true hye
    have e1 : y.r = e.r := congrArg Mk.r hm
    have e2 : y.n = e.n := congrArg Mk.n hm
    have := drain_left c l hd hn y hy
    rw [e1, e2] at this
    rw [this]; rfl
/-- The same once more: nothing is done, and the same are left. -/
theorem drain_twice (c : Clk) (X : List Ev) : drain (drain c (freshL c X)).2.2 (freshL (drain c (freshL c X)).2.2 X) = ([], (drain c (freshL c X)).2.1, (drain c (freshL c X)).2.2) := by
  have hd : Dst (freshL c X) := freshL_dst c X [] List.Pairwise.nil
  rw [freshL_above (drain_le c _ hd) X, ← drain_left_eq c _ hd (freshL_has c X)]
  exact drain_stop (drain_end c _ hd)
end Go.Proofs.Ytmjpdibjdgjhgaa
