/- Several texts, one behind the other; each says in its head what it proves. No condition. -/
import Derived.Test.YtcclbplccnaonaaZbjcafbdh
import Derived.Test.YtcclbplccnaonaaZkbdnacgf
/- Pasts, in plain words: marks, clocks, right, ordered; what is delivered. No condition. -/
namespace Go.Proofs.Ytcclbplccnaonaa
open Go.RowKit
set_option linter.unusedSimpArgs false
set_option linter.unusedVariables false
def marks (l : List Ev) : List Mk := l.map Ev.mk_
theorem mem_marks {l : List Ev} {k : Mk} : k ∈ marks l ↔ ∃ a ∈ l, a.mk_ = k := by simp [marks]
theorem mem_marks_of {l : List Ev} {a : Ev} (h : a ∈ l) : (⟨a.r, a.n⟩ : Mk) ∈ marks l := mem_marks.2 ⟨a, h, rfl⟩
theorem marks_app (l s : List Ev) : marks (l ++ s) = marks l ++ marks s := by simp [marks]
theorem Dst.iff {l : List Ev} : Dst l ↔ (marks l).Nodup := by unfold Dst marks List.Nodup; rw [List.pairwise_map]
theorem Dst.same {l : List Ev} (h : Dst l) {a b : Ev} (ha : a ∈ l) (hb : b ∈ l) (e : a.mk_ = b.mk_) : a = b := by
  obtain ⟨i, hi, rfl⟩ := List.getElem_of_mem ha
  obtain ⟨j, hj, rfl⟩ := List.getElem_of_mem hb
  have := h.inj hi hj e
  subst this
  rfl
theorem mk_of {a : Ev} {r n : Int} (h : a.mk_ = ⟨r, n⟩) : a.r = r ∧ a.n = n := by
  have h1 : a.r = r := congrArg Mk.r h
  have h2 : a.n = n := congrArg Mk.n h
  exact ⟨h1, h2⟩
/-- n is the mark up to which replica r's marks stand without a gap, from b on. -/
def UpTo (l : List Ev) (r b n : Int) : Prop := b ≤ n ∧ (∀ k, b < k → k ≤ n → (⟨r, k⟩ : Mk) ∈ marks l) ∧ (⟨r, n + 1⟩ : Mk) ∉ marks l
theorem UpTo.unique {l : List Ev} {r b n m : Int} (h : UpTo l r b n) (k : UpTo l r b m) : n = m := by
  obtain ⟨h1, h2, h3⟩ := h
  obtain ⟨k1, k2, k3⟩ := k
  rcases Int.lt_trichotomy n m with hlt | he | hlt
  · exact absurd (k2 (n + 1) (by omega) (by omega)) h3
  · exact he
  · exact absurd (h2 (m + 1) (by omega) (by omega)) k3
theorem marks_bound (l : List Ev) : ∃ B : Int, ∀ e ∈ l, e.n ≤ B := by
  induction l with
  | nil => exact ⟨0, by simp⟩
  | cons a l ih =>
    obtain ⟨B, hB⟩ := ih
    refine ⟨max a.n B, fun e he => ?_⟩
    rcases List.mem_cons.1 he with rfl | he
    · omega
    · have := hB e he; omega
theorem upTo_ex (l : List Ev) (r b : Int) : ∃ k : Nat, (⟨r, b + k + 1⟩ : Mk) ∉ marks l := by
  obtain ⟨B, hB⟩ := marks_bound l
  refine ⟨(B - b).toNat, fun h => ?_⟩
  obtain ⟨a, ha, he⟩ := mem_marks.1 h
  have h2 := (mk_of he).2
  have := hB a ha
  omega
noncomputable def upTo (l : List Ev) (r b : Int) : Int := b + (leastOf fun k : Nat => (⟨r, b + k + 1⟩ : Mk) ∉ marks l : Nat)
theorem upTo_spec (l : List Ev) (r b : Int) : UpTo l r b (upTo l r b) := by
  obtain ⟨k, hk⟩ := upTo_ex l r b
  have h1 := leastOf_spec (p := fun k : Nat => (⟨r, b + k + 1⟩ : Mk) ∉ marks l) hk
  unfold upTo
  refine ⟨by omega, fun j hj1 hj2 => ?_, h1.1⟩
  refine Classical.byContradiction fun hc => ?_
  have h2 := leastOf_spec (p := fun k : Nat => (⟨r, b + k + 1⟩ : Mk) ∉ marks l) (m := (j - b - 1).toNat) (by
    rw [show b + ((j - b - 1).toNat : Int) + 1 = j by omega]; exact hc)
  omega
def clk5 (f : Nat → Int) : Clk := ⟨f 0, f 1, f 2, f 3, f 4⟩
theorem clk5_get (f : Nat → Int) (i : Nat) (h : i < 5) : (clk5 f).get i = f i := by
  match i, h with
  | 0, _ => rfl
  | 1, _ => rfl
  | 2, _ => rfl
  | 3, _ => rfl
  | 4, _ => rfl
/-- c, moved on as far as there are marks without a gap. -/
noncomputable def reachC (l : List Ev) (c : Clk) : Clk := clk5 fun (i : Nat) => upTo l i (c.get i)
noncomputable def clockP (l : List Ev) : Clk := reachC l Clk.zero
theorem zero_get (i : Nat) : Clk.zero.get i = 0 := by
  match i with
  | 0 => rfl
  | 1 => rfl
  | 2 => rfl
  | 3 => rfl
  | 4 => rfl
  | i + 5 => simp [Clk.get]
theorem reachC_upTo (l : List Ev) (c : Clk) {i : Nat} (h : i < 5) : UpTo l i (c.get i) ((reachC l c).get i) := by
  unfold reachC
  rw [clk5_get _ _ h]
  exact upTo_spec ..
theorem reachC_eq {l : List Ev} {c d : Clk} (h : ∀ i : Nat, i < 5 → UpTo l i (c.get i) (d.get i)) : reachC l c = d :=
  Clk.ext_get fun j hj => (reachC_upTo l c hj).unique (h j hj)
theorem clockP_upTo (l : List Ev) {i : Nat} (h : i < 5) : UpTo l i 0 ((clockP l).get i) := by
  have := reachC_upTo l Clk.zero h
  rwa [zero_get] at this
theorem clockP_eq {l : List Ev} {d : Clk} (h : ∀ i : Nat, i < 5 → UpTo l i 0 (d.get i)) : clockP l = d :=
  reachC_eq fun i hi => by rw [zero_get]; exact h i hi
theorem UpTo.congr {l s : List Ev} {r b n : Int} (h : ∀ k : Int, (⟨r, k⟩ : Mk) ∈ marks l ↔ (⟨r, k⟩ : Mk) ∈ marks s) (u : UpTo l r b n) : UpTo s r b n :=
  ⟨u.1, fun k h1 h2 => (h k).1 (u.2.1 k h1 h2), fun hc => u.2.2 ((h _).2 hc)⟩
theorem clockP_congr {l s : List Ev} (h : ∀ k, k ∈ marks l ↔ k ∈ marks s) : clockP l = clockP s :=
  clockP_eq fun i hi => (clockP_upTo s hi).congr fun k => (h _).symm
theorem clockP_pos (l : List Ev) {i : Nat} (h : i < 5) : 0 ≤ (clockP l).get i := (clockP_upTo l h).1
theorem has_clockP {l : List Ev} {r n : Int} (h : (clockP l).has r n = true) : (⟨r, n⟩ : Mk) ∈ marks l := by
  obtain ⟨h0, h1, h2, h3⟩ := (Clk.has_iff _ _ _).1 h
  have := (clockP_upTo l (i := r.toNat) (by omega)).2.1 n (by omega) h3
  rwa [show ((r.toNat : Nat) : Int) = r by omega] at this
theorem le_clockP {c : Clk} {l : List Ev} : c.le (clockP l) = true ↔ ∀ r n, c.has r n = true → (⟨r, n⟩ : Mk) ∈ marks l := by
  constructor
  · intro h r n hh
    exact has_clockP (has_mono h hh)
  · intro h
    refine (Clk.le_iff _ _).2 fun j hj => ?_
    refine Classical.byContradiction fun hc => ?_
    have hp := clockP_pos l hj
    refine (clockP_upTo l hj).2.2 (h j _ ((Clk.has_iff _ _ _).2 ⟨by omega, by omega, by omega, ?_⟩))
    rw [show ((j : Int)).toNat = j by omega]
    omega
/-- To move on from a place on the way comes to the same. -/
theorem reachC_mid {l : List Ev} {c : Clk} (h0 : ∀ i, i < 5 → 0 ≤ c.get i) (h : c.le (clockP l) = true) : reachC l c = clockP l :=
  reachC_eq fun i hi => by
    have h1 := clockP_upTo l hi
    have h2 := (Clk.le_iff _ _).1 h i hi
    have h3 := h0 i hi
    exact ⟨h2, fun k hk1 hk2 => h1.2.1 k (by omega) hk2, h1.2.2⟩
structure Ev.May (e : Ev) : Prop where
  r : 0 ≤ e.r ∧ e.r < 5
  n : 1 ≤ e.n ∧ e.n ≤ 1048576
  h : 1 ≤ e.h ∧ e.h ≤ 16777216
  c : ∀ i, i < 5 → 0 ≤ e.c.get i ∧ e.c.get i ≤ 1048576
  own : e.c.get e.r.toNat = e.n - 1
  ed : e.ed.err = 0
/-- How high one is that has c of l: above the highest of these; 1, if there is none. -/
def HighIs (l : List Ev) (c : Clk) (h : Int) : Prop := (∀ a ∈ l, c.has a.r a.n = true → a.h < h) ∧ ((h = 1 ∧ ∀ a ∈ l, c.has a.r a.n = false) ∨ ∃ a ∈ l, c.has a.r a.n = true ∧ a.h + 1 = h)
theorem HighIs.unique {l : List Ev} {c : Clk} {h k : Int} (x : HighIs l c h) (y : HighIs l c k) : h = k := by
  obtain ⟨x1, x2⟩ := x
  obtain ⟨y1, y2⟩ := y
  rcases x2 with ⟨rfl, hx⟩ | ⟨a, ha, hac, he⟩
  · rcases y2 with ⟨rfl, _⟩ | ⟨b, hb, hbc, he⟩
    · rfl
    · rw [hx b hb] at hbc; cases hbc
  · rcases y2 with ⟨rfl, hy⟩ | ⟨b, hb, hbc, he2⟩
    · rw [hy a ha] at hac; cases hac
    · have := y1 a ha hac
      have := x1 b hb hbc
      omega
theorem HighIs.congr {l s : List Ev} {c : Clk} {h : Int} (hls : ∀ a, c.has a.r a.n = true → (a ∈ l ↔ a ∈ s)) (x : HighIs l c h) : HighIs s c h := by
  obtain ⟨x1, x2⟩ := x
  refine ⟨fun a ha hc => x1 a ((hls a hc).2 ha) hc, ?_⟩
  rcases x2 with ⟨rfl, hx⟩ | ⟨a, ha, hac, he⟩
  · refine .inl ⟨rfl, fun a ha => ?_⟩
    cases hh : c.has a.r a.n
    · rfl
    · have := hx a ((hls a hh).2 ha)
      rw [hh] at this; cases this
  · exact .inr ⟨a, (hls a hac).1 ha, hac, he⟩
theorem heightP_is (l : List Ev) (c : Clk) : HighIs l c (heightP l c) := by
  have key : ∀ l : List Ev, ((l.foldl (heightS c) (0, false)).2 = false ∧ (l.foldl (heightS c) (0, false)).1 = 0 ∧ ∀ a ∈ l, c.has a.r a.n = false) ∨
      ((l.foldl (heightS c) (0, false)).2 = true ∧ (∀ a ∈ l, c.has a.r a.n = true → a.h ≤ (l.foldl (heightS c) (0, false)).1) ∧ ∃ a ∈ l, c.has a.r a.n = true ∧ a.h = (l.foldl (heightS c) (0, false)).1) := by
    intro l
    rw [← List.reverse_reverse l]
    generalize l.reverse = m
    induction m with
    | nil => exact .inl ⟨rfl, rfl, by simp⟩
    | cons x m ih =>
      rw [List.reverse_cons, List.foldl_append]
      simp only [List.foldl_cons, List.foldl_nil]
      generalize m.reverse.foldl (heightS c) (0, false) = s at ih ⊢
      cases hx : c.has x.r x.n
      · have hs : heightS c s x = s := if_neg (by rw [hx]; simp)
        rw [hs]
        rcases ih with ⟨i1, i2, i3⟩ | ⟨i1, i2, a, ha, i3, i4⟩
        · refine .inl ⟨i1, i2, fun a ha => ?_⟩
          rcases List.mem_append.1 ha with h | h
          · exact i3 a h
          · simp only [List.mem_singleton] at h; subst h; exact hx
        · refine .inr ⟨i1, fun b hb hbc => ?_, a, List.mem_append_left _ ha, i3, i4⟩
          rcases List.mem_append.1 hb with h | h
          · exact i2 b h hbc
          · simp only [List.mem_singleton] at h; subst h; rw [hx] at hbc; cases hbc
      · right
        rcases ih with ⟨i1, i2, i3⟩ | ⟨i1, i2, a, ha, i3, i4⟩
        · have hs : heightS c s x = (x.h, true) := if_pos ⟨hx, .inl i1⟩
          rw [hs]
          refine ⟨rfl, fun b hb hbc => ?_, x, by simp, hx, rfl⟩
          rcases List.mem_append.1 hb with h | h
          · rw [i3 b h] at hbc; cases hbc
          · simp only [List.mem_singleton] at h; subst h; exact Int.le_refl _
        · by_cases hg : s.1 < x.h
          · have hs : heightS c s x = (x.h, true) := if_pos ⟨hx, .inr hg⟩
            rw [hs]
            refine ⟨rfl, fun b hb hbc => ?_, x, by simp, hx, rfl⟩
            rcases List.mem_append.1 hb with h | h
            · have := i2 b h hbc; simp only; omega
            · simp only [List.mem_singleton] at h; subst h; exact Int.le_refl _
          · have hs : heightS c s x = s := if_neg (by rintro ⟨_, h | h⟩; rw [i1] at h; cases h; exact hg h)
            rw [hs]
            refine ⟨i1, fun b hb hbc => ?_, a, List.mem_append_left _ ha, i3, i4⟩
            rcases List.mem_append.1 hb with h | h
            · exact i2 b h hbc
            · simp only [List.mem_singleton] at h; subst h; omega
  unfold heightP
  rcases key l with ⟨_, k2, k3⟩ | ⟨_, k2, a, ha, k3, k4⟩
  · rw [k2]
    exact ⟨fun a ha hc => (by rw [k3 a ha] at hc; cases hc), .inl ⟨rfl, k3⟩⟩
  · exact ⟨fun b hb hc => (by have := k2 b hb hc; omega), .inr ⟨a, ha, k3, by omega⟩⟩
/-- What may be a past. -/
structure RightQ (l : List Ev) : Prop where
  may : ∀ e ∈ l, e.May
  dst : Dst l
  all : ∀ e ∈ l, ∀ r n, e.c.has r n = true → ∃ a ∈ l, a.mk_ = ⟨r, n⟩ ∧ a.c.le e.c = true
  high : ∀ e ∈ l, HighIs l e.c e.h
/-- It, as the code asks. -/
def RightP (l : List Ev) : Prop := (∀ e ∈ l, e.May) ∧ Dst l ∧ ∀ e ∈ l, e.c.le (clockP l) = true ∧ e.h = heightP l e.c ∧ ∀ a ∈ l, e.c.has a.r a.n = true → a.c.le e.c = true
theorem RightQ.iff {l : List Ev} : RightP l ↔ RightQ l := by
  constructor
  · rintro ⟨h1, h2, h3⟩
    refine ⟨h1, h2, fun e he r n hh => ?_, fun e he => ?_⟩
    · obtain ⟨a, ha, e1⟩ := mem_marks.1 (le_clockP.1 (h3 e he).1 r n hh)
      obtain ⟨e2, e3⟩ := mk_of e1
      exact ⟨a, ha, e1, (h3 e he).2.2 a ha (by rw [e2, e3]; exact hh)⟩
    · rw [(h3 e he).2.1]; exact heightP_is l e.c
  · rintro ⟨h1, h2, h3, h4⟩
    refine ⟨h1, h2, fun e he => ⟨le_clockP.2 fun r n hh => ?_, (h4 e he).unique (heightP_is l e.c), fun a ha hh => ?_⟩⟩
    · obtain ⟨a, ha, e1, _⟩ := h3 e he r n hh
      exact mem_marks.2 ⟨a, ha, e1⟩
    · obtain ⟨b, hb, e1, h5⟩ := h3 e he _ _ hh
      have := h2.same hb ha e1
      subst this
      exact h5
theorem RightQ.nil : RightQ [] := ⟨by simp, List.Pairwise.nil, by simp, by simp⟩
theorem RightQ.trans {l : List Ev} (h : RightQ l) {a e : Ev} (he : e ∈ l) (ha : a ∈ l) (hh : e.c.has a.r a.n = true) : a.c.le e.c = true := (RightQ.iff.2 h).2.2 e he |>.2.2 a ha hh
theorem RightQ.lt {l : List Ev} (h : RightQ l) {a e : Ev} (he : e ∈ l) (ha : a ∈ l) (hh : e.c.has a.r a.n = true) : a.h < e.h := (h.high e he).1 a ha hh
theorem May.irr {e : Ev} (h : e.May) : e.c.has e.r e.n = false := Clk.has_f fun k => by have := h.own; omega
/-- Some events of a right past, and with each all that is below it, are one. -/
theorem RightQ.sub {w s : List Ev} (h : RightQ w) (hd : Dst s) (hs : ∀ e ∈ s, e ∈ w) (hc : ∀ e ∈ s, ∀ a ∈ w, e.c.has a.r a.n = true → a ∈ s) : RightQ s where
  may := fun e he => h.may e (hs e he)
  dst := hd
  all := fun e he r n hh => by
    obtain ⟨a, ha, e1, h2⟩ := h.all e (hs e he) r n hh
    obtain ⟨e2, e3⟩ := mk_of e1
    exact ⟨a, hc e he a ha (by rw [e2, e3]; exact hh), e1, h2⟩
  high := fun e he => (h.high e (hs e he)).congr fun a hh => ⟨fun ha => hc e he a ha hh, fun ha => hs a ha⟩
theorem RightQ.has_iff {l : List Ev} (h : RightQ l) {r n : Int} : (clockP l).has r n = true ↔ (⟨r, n⟩ : Mk) ∈ marks l := by
  refine ⟨has_clockP, fun hm => ?_⟩
  obtain ⟨a, ha, e⟩ := mem_marks.1 hm
  obtain ⟨e1, e2⟩ := mk_of e
  have hy := h.may a ha
  have h1 := (RightQ.iff.2 h).2.2 a ha |>.1
  have hr := hy.r
  have h2 := (Clk.le_iff _ _).1 h1 a.r.toNat (by omega)
  rw [hy.own] at h2
  have hn := hy.n
  refine (Clk.has_iff _ _ _).2 ⟨by omega, by omega, by omega, ?_⟩
  refine Classical.byContradiction fun hc => ?_
  have h3 := (clockP_upTo l (i := a.r.toNat) (by omega)).2.2
  rw [e1] at h2 h3
  rw [show (clockP l).get r.toNat + 1 = n by omega, show ((r.toNat : Nat) : Int) = r by omega] at h3
  exact h3 hm
/-- Each event stands behind what is below it. -/
def OrdQ (l : List Ev) : Prop := ∀ l1 e l2, l = l1 ++ e :: l2 → ∀ r n, e.c.has r n = true → (⟨r, n⟩ : Mk) ∈ marks l1
/-- It, as the code asks. -/
def OrdP (l : List Ev) : Prop := ∀ i (h : i < l.length), (l[i]'h).c.le (clockP (l.take i)) = true
theorem OrdQ.iff {l : List Ev} : OrdP l ↔ OrdQ l := by
  constructor
  · rintro h l1 e l2 rfl r n hh
    have := h l1.length (by simp)
    rw [List.take_left] at this
    refine le_clockP.1 this r n ?_
    simpa using hh
  · intro h i hi
    refine le_clockP.2 fun r n hh => h (l.take i) _ (l.drop (i + 1)) ?_ r n hh
    rw [List.getElem_cons_drop, List.take_append_drop]
theorem OrdQ.nil : OrdQ [] := fun l1 e l2 h => by simp at h
theorem OrdQ.pre {l s : List Ev} (h : OrdQ (l ++ s)) : OrdQ l := by
  rintro l1 e l2 rfl r n hh
  exact h l1 e (l2 ++ s) (by simp) r n hh
theorem OrdQ.take {l : List Ev} (h : OrdQ l) (k : Nat) : OrdQ (l.take k) := OrdQ.pre (s := l.drop k) (by rwa [List.take_append_drop])
theorem OrdQ.snoc {l : List Ev} {e : Ev} (h : OrdQ l) (he : ∀ r n, e.c.has r n = true → (⟨r, n⟩ : Mk) ∈ marks l) : OrdQ (l ++ [e]) := by
  intro l1 x l2 hx r n hh
  rcases List.eq_nil_or_concat l2 with rfl | ⟨l3, y, rfl⟩
  · obtain ⟨rfl, h2⟩ := List.append_inj' hx rfl
    simp only [List.cons.injEq, and_true] at h2
    subst h2
    exact he r n hh
  · have h2 : l ++ [e] = (l1 ++ x :: l3) ++ [y] := by rw [hx]; simp
    obtain ⟨h3, _⟩ := List.append_inj' h2 rfl
    exact h l1 x l3 h3 r n hh
theorem OrdQ.last {l : List Ev} {e : Ev} (h : OrdQ (l ++ [e])) : ∀ r n, e.c.has r n = true → (⟨r, n⟩ : Mk) ∈ marks l := h l e [] rfl
theorem OrdQ.filter {w : List Ev} (h : OrdQ w) (p : Ev → Bool) (hp : ∀ e ∈ w, p e = true → ∀ a ∈ w, e.c.has a.r a.n = true → p a = true) : OrdQ (w.filter p) := by
  intro l1 e l2 hx r n hh
  obtain ⟨w1, w2, rfl, rfl, h3⟩ := List.filter_eq_append_iff.1 hx
  obtain ⟨u, v, rfl, h4, h5, _⟩ := List.filter_eq_cons_iff.1 h3
  obtain ⟨a, ha, e1⟩ := mem_marks.1 (h (w1 ++ u) e v (by simp) r n hh)
  obtain ⟨e2, e3⟩ := mk_of e1
  have hpa := hp e (by simp) h5 a (by rcases List.mem_append.1 ha with h | h <;> simp [h]) (by rw [e2, e3]; exact hh)
  rcases List.mem_append.1 ha with h6 | h6
  · exact mem_marks.2 ⟨a, List.mem_filter.2 ⟨h6, hpa⟩, e1⟩
  · exact absurd hpa (h4 a h6)
/-- The first one of which something holds. -/
theorem first_of (P : Ev → Prop) : ∀ w : List Ev, (∃ e ∈ w, P e) → ∃ w1 e w2, w = w1 ++ e :: w2 ∧ P e ∧ ∀ x ∈ w1, ¬ P x
  | [], ⟨e, he, _⟩ => by simp at he
  | a :: w, ⟨e, he, hp⟩ => by
    by_cases ha : P a
    · exact ⟨[], a, w, rfl, ha, by simp⟩
    · have : e ∈ w := by
        rcases List.mem_cons.1 he with rfl | h
        · exact absurd hp ha
        · exact h
      obtain ⟨w1, e, w2, rfl, h2, h3⟩ := first_of P w ⟨e, this, hp⟩
      refine ⟨a :: w1, e, w2, rfl, h2, fun x hx => ?_⟩
      rcases List.mem_cons.1 hx with rfl | hx
      · exact ha
      · exact h3 x hx
/-- Some of w, in an order in which what is below comes first. -/
structure Dlv (w log : List Ev) : Prop where
  sub : ∀ e ∈ log, e ∈ w
  dst : Dst log
  ord : OrdQ log
theorem Dlv.nil (w : List Ev) : Dlv w [] := ⟨by simp, List.Pairwise.nil, OrdQ.nil⟩
theorem Dlv.right {w log : List Ev} (hw : RightQ w) (h : Dlv w log) : RightQ log := hw.sub h.dst h.sub fun e he a ha hh => by
  obtain ⟨l1, l2, rfl⟩ := List.append_of_mem he
  obtain ⟨b, hb, e1⟩ := mem_marks.1 (h.ord l1 e l2 rfl _ _ hh)
  have hbl : b ∈ l1 ++ e :: l2 := List.mem_append_left _ hb
  have := hw.dst.same (h.sub b hbl) ha e1
  subst this
  exact hbl
theorem Dlv.has_iff {w log : List Ev} (hw : RightQ w) (h : Dlv w log) {r n : Int} : (clockP log).has r n = true ↔ (⟨r, n⟩ : Mk) ∈ marks log := (h.right hw).has_iff
theorem Dlv.has_mem {w log : List Ev} (hw : RightQ w) (h : Dlv w log) {e : Ev} (he : e ∈ w) : (clockP log).has e.r e.n = true ↔ e ∈ log := by
  rw [h.has_iff hw]
  constructor
  · intro hm
    obtain ⟨a, ha, e1⟩ := mem_marks.1 hm
    have := hw.dst.same (h.sub a ha) he e1
    subst this
    exact ha
  · exact mem_marks_of
/-- What is ready comes next. -/
theorem Dlv.step {w log : List Ev} (hw : RightQ w) (h : Dlv w log) {e : Ev} (he : e ∈ w) (hr : e.rdy (clockP log)) : Dlv w (log ++ [e]) ∧ clockP (log ++ [e]) = (clockP log).set e.r.toNat e.n := by
  obtain ⟨r0, r1, r2, r3, r4⟩ := hr
  have hno : (⟨e.r, e.n⟩ : Mk) ∉ marks log := fun hm => by
    obtain ⟨_, _, _, h3⟩ := (Clk.has_iff _ _ _).1 ((h.has_iff hw).2 hm)
    omega
  refine ⟨⟨fun x hx => ?_, ?_, h.ord.snoc fun r n hh => (h.has_iff hw).1 (has_mono r4 hh)⟩, ?_⟩
  · rcases List.mem_append.1 hx with hx | hx
    · exact h.sub x hx
    · simp only [List.mem_singleton] at hx; subst hx; exact he
  · refine List.pairwise_append.2 ⟨h.dst, by simp, fun a ha b hb hab => ?_⟩
    simp only [List.mem_singleton] at hb
    subst hb
    refine hno ?_
    have := mem_marks_of ha
    obtain ⟨e1, e2⟩ := mk_of (a := a) (r := b.r) (n := b.n) hab
    rwa [e1, e2] at this
  · refine clockP_eq fun i hi => ?_
    rw [Clk.get_set _ _ _ _ (by omega)]
    have hu := clockP_upTo log hi
    by_cases hie : i = e.r.toNat
    · rw [if_pos hie]
      subst hie
      rw [show ((e.r.toNat : Nat) : Int) = e.r by omega] at hu ⊢
      refine ⟨by omega, fun k h1 h2 => ?_, fun hm => ?_⟩
      · rw [marks_app]
        by_cases hk : k = e.n
        · subst hk
          exact List.mem_append_right _ (by simp [marks, Ev.mk_])
        · exact List.mem_append_left _ (hu.2.1 k h1 (by omega))
      · rw [marks_app] at hm
        rcases List.mem_append.1 hm with hm | hm
        · obtain ⟨_, _, _, h3⟩ := (Clk.has_iff _ _ _).1 ((h.has_iff hw).2 hm)
          omega
        · simp only [marks, List.map_cons, List.map_nil, List.mem_singleton, Ev.mk_, Mk.mk.injEq] at hm
          omega
    · rw [if_neg hie]
      refine hu.congr fun k => ?_
      rw [marks_app]
      constructor
      · exact List.mem_append_left _
      · intro hm
        rcases List.mem_append.1 hm with hm | hm
        · exact hm
        · simp only [marks, List.map_cons, List.map_nil, List.mem_singleton, Ev.mk_, Mk.mk.injEq] at hm
          omega
/-- What is drained is delivered. -/
theorem drain_dlv {w : List Ev} (hw : RightQ w) (c : Clk) (l : List Ev) : Dst l → (∀ e ∈ l, e ∈ w) → ∀ log, Dlv w log → c = clockP log → Dlv w (log ++ (drain c l).1) ∧ (drain c l).2.2 = clockP (log ++ (drain c l).1) := by
  refine drain_induct (motive := fun c l => Dst l → (∀ e ∈ l, e ∈ w) → ∀ log, Dlv w log → c = clockP log → Dlv w (log ++ (drain c l).1) ∧ (drain c l).2.2 = clockP (log ++ (drain c l).1)) (fun c l h _ _ log hl hc => ?_) (fun c l i hi h ih hd hs log hl hc => ?_) c l
  · rw [drain_stop h]
    simp only [List.append_nil]
    exact ⟨hl, hc⟩
  · subst hc
    rw [drain_step hd hi h]
    obtain ⟨h1, h2⟩ := hl.step hw (hs _ (List.getElem_mem hi)) h.2.1
    have := ih (hd.erase i) (fun e he => hs e ((List.eraseIdx_sublist ..).subset he)) _ h1 h2.symm
    simp only [List.append_assoc, List.cons_append, List.nil_append] at this
    exact this
theorem fresh_dst (c : Clk) (X : List Ev) : Dst (freshL c X) := freshL_dst c X [] List.Pairwise.nil
theorem fresh_dlv {w log : List Ev} (hw : RightQ w) (hl : Dlv w log) {X : List Ev} (hX : ∀ e ∈ X, e ∈ w) :
    Dlv w (log ++ (drain (clockP log) (freshL (clockP log) X)).1) ∧ (drain (clockP log) (freshL (clockP log) X)).2.2 = clockP (log ++ (drain (clockP log) (freshL (clockP log) X)).1) :=
  drain_dlv hw _ _ (fresh_dst _ X) (fun e he => hX e (freshL_mem _ X e he)) log hl rfl
end Go.Proofs.Ytcclbplccnaonaa
/- What was drained, drained once more, in plain words. No condition. -/
namespace Go.Proofs.Ytcclbplccnaonaa
open Go.RowKit
set_option linter.unusedSimpArgs false
set_option linter.unusedVariables false
theorem freshL_above {c d : Clk} (h : c.le d = true) (l : List Ev) : freshL d l = (freshL c l).filter fun e => !d.has e.r e.n := by
  have key : ∀ (l acc : List Ev), l.foldl (freshS d) (acc.filter fun e => !d.has e.r e.n) = (l.foldl (freshS c) acc).filter fun e => !d.has e.r e.n := by
    intro l
    induction l with
    | nil => intro acc; rfl
    | cons e l ih =>
      intro acc
      have hs : freshS d (acc.filter fun e => !d.has e.r e.n) e = (freshS c acc e).filter fun e => !d.has e.r e.n := by
        unfold freshS
        cases hd : d.has e.r e.n
        · have hc : c.has e.r e.n = false := by
            cases hc : c.has e.r e.n
            · rfl
            · rw [has_mono h hc] at hd; cases hd
          by_cases ha : (acc.any fun x => decide (x.mk_ = e.mk_)) = true
          · have hb : ((acc.filter fun e => !d.has e.r e.n).any fun x => decide (x.mk_ = e.mk_)) = true := by
              obtain ⟨y, hy, hye⟩ := List.any_eq_true.1 ha
              have hm := of_decide_eq_true hye
              have h1 : y.r = e.r := congrArg Mk.r hm
              have h2 : y.n = e.n := congrArg Mk.n hm
              exact List.any_eq_true.2 ⟨y, List.mem_filter.2 ⟨hy, by simp only [h1, h2, hd]; rfl⟩, hye⟩
            rw [if_pos (.inl hb), if_pos (.inl ha)]
          · have hb : ¬ ((acc.filter fun e => !d.has e.r e.n).any fun x => decide (x.mk_ = e.mk_)) = true := fun hx => by
              obtain ⟨y, hy, hye⟩ := List.any_eq_true.1 hx
              exact ha (List.any_eq_true.2 ⟨y, (List.mem_filter.1 hy).1, hye⟩)
            rw [if_neg (by rintro (x | x); exact hb x; cases x), if_neg (by rintro (x | x); exact ha x; rw [hc] at x; cases x), List.filter_append]
            simp [hd]
        · rw [if_pos (.inr rfl)]
          split
          · rfl
          · rw [List.filter_append]; simp [hd]
      rw [List.foldl_cons, List.foldl_cons, hs, ih]
  have := key l []
  simpa [freshL] using this
theorem drain_left_eq (c : Clk) (l : List Ev) (hd : Dst l) (hn : ∀ e ∈ l, c.has e.r e.n = false) : (drain c l).2.1 = l.filter fun e => !(drain c l).2.2.has e.r e.n := by
  have hs := filter_sub (drain_sub c l hd) hd
  conv => lhs; rw [← hs]
  refine List.filter_congr fun e he => ?_
  have hcnt := drain_cnt e.mk_ c l hd
  have h1 : 0 < cnt e.mk_ l := List.countP_pos_iff.2 ⟨e, he, decide_eq_true rfl⟩
  cases ha : ((drain c l).2.1.any fun x => decide (x.mk_ = e.mk_))
  · have h2 : cnt e.mk_ (drain c l).2.1 = 0 := List.countP_eq_zero.2 fun x hx hxe => by
      rw [List.any_eq_false] at ha
      exact ha x hx hxe
    have h3 : 0 < cnt e.mk_ (drain c l).1 := by omega
    obtain ⟨y, hy, hye⟩ := List.countP_pos_iff.1 h3
    have hm := of_decide_eq_true hye
    have e1 : y.r = e.r := congrArg Mk.r hm
    have e2 : y.n = e.n := congrArg Mk.n hm
    have := drain_done c l hd y hy
    rw [e1, e2] at this
    rw [this]; rfl
  · obtain ⟨y, hy, hye⟩ := List.any_eq_true.1 ha
    have hm := of_decide_eq_true hye
    have e1 : y.r = e.r := congrArg Mk.r hm
    have e2 : y.n = e.n := congrArg Mk.n hm
    have := drain_left c l hd hn y hy
    rw [e1, e2] at this
    rw [this]; rfl
/-- The same once more: nothing is done, and the same are left. -/
theorem drain_twice (c : Clk) (X : List Ev) : drain (drain c (freshL c X)).2.2 (freshL (drain c (freshL c X)).2.2 X) = ([], (drain c (freshL c X)).2.1, (drain c (freshL c X)).2.2) := by
  have hd : Dst (freshL c X) := freshL_dst c X [] List.Pairwise.nil
  rw [freshL_above (drain_le c _ hd) X, ← drain_left_eq c _ hd (freshL_has c X)]
  exact drain_stop (drain_end c _ hd)
end Go.Proofs.Ytcclbplccnaonaa
/- What is made is a right past, in order; all is delivered in the end. No condition. -/
namespace Go.Proofs.Ytcclbplccnaonaa
open Go.RowKit
set_option linter.unusedSimpArgs false
set_option linter.unusedVariables false
/-- Right, and in order. -/
structure GoodP (w : List Ev) : Prop where
  right : RightQ w
  ord : OrdQ w
/-- What a clock has is there, with no more than it in its own. -/
def Closed (out : List Ev) (c : Clk) : Prop := (∀ j, 0 ≤ c.get j) ∧ ∀ r n, c.has r n = true → ∃ a ∈ out, a.mk_ = ⟨r, n⟩ ∧ a.c.le c = true
theorem le_join_l (a b : Clk) : a.le (a.join b) = true := (Clk.le_iff _ _).2 fun j hj => by rw [Clk.join_get _ _ _ hj]; omega
theorem le_join_r (a b : Clk) : b.le (a.join b) = true := (Clk.le_iff _ _).2 fun j hj => by rw [Clk.join_get _ _ _ hj]; omega
theorem Closed.join {out : List Ev} {a b : Clk} (ha : Closed out a) (hb : Closed out b) : Closed out (a.join b) := by
  refine ⟨fun j => ?_, fun r n hh => ?_⟩
  · rcases clk_join_get a b j with h | h <;> rw [h]
    · have := ha.1 j; omega
    · exact Int.le_refl _
  · obtain ⟨h0, h1, h2, h3⟩ := (Clk.has_iff _ _ _).1 hh
    rw [Clk.join_get _ _ _ (by omega)] at h3
    rcases Int.le_total (b.get r.toNat) (a.get r.toNat) with hab | hab
    · obtain ⟨x, hx, e, hl⟩ := ha.2 r n ((Clk.has_iff _ _ _).2 ⟨h0, h1, h2, by omega⟩)
      exact ⟨x, hx, e, le_trans_clk hl (le_join_l a b)⟩
    · obtain ⟨x, hx, e, hl⟩ := hb.2 r n ((Clk.has_iff _ _ _).2 ⟨h0, h1, h2, by omega⟩)
      exact ⟨x, hx, e, le_trans_clk hl (le_join_r a b)⟩
theorem Closed.more {out : List Ev} {c : Clk} (h : Closed out c) (x : List Ev) : Closed (out ++ x) c := ⟨h.1, fun r n hh => by
  obtain ⟨a, ha, e⟩ := h.2 r n hh
  exact ⟨a, List.mem_append_left _ ha, e⟩⟩
structure MkG (s : List Ev × List Clk) : Prop where
  good : GoodP s.1
  clo : ∀ c ∈ s.2, Closed s.1 c
  own : ∀ e ∈ s.1, e.n ≤ (s.2.getD e.r.toNat Clk.zero).get e.r.toNat
theorem getD_set_eq {l : List Clk} {i : Nat} (h : i < l.length) (v z : Clk) : (l.set i v).getD i z = v := by simp [List.getD_eq_getElem?_getD, h]
theorem getD_set_ne {l : List Clk} {i j : Nat} (h : i ≠ j) (v z : Clk) : (l.set j v).getD i z = l.getD i z := by
  rw [List.getD_eq_getElem?_getD, List.getD_eq_getElem?_getD, List.getElem?_set_ne (fun k => h k.symm)]
theorem MkG.step {m : Int} {s : List Ev × List Clk} (k : MkOk m s) (hm : 0 ≤ m ∧ m ≤ 1000000) (g : MkG s) {ch : Ch} (hc : ch.Ok) : MkG (mkStep s ch) := by
  obtain ⟨hl, he⟩ := getD_mem k.five hc.r
  obtain ⟨hl2, he2⟩ := getD_mem k.five hc.f
  have hcr := hc.r
  have h5 := k.five
  have hcl := g.clo _ (List.getElem_mem hl)
  have hcl2 := g.clo _ (List.getElem_mem hl2)
  rw [← he] at hcl
  rw [← he2] at hcl2
  have hcm := k.clk _ (List.getElem_mem hl)
  rw [← he] at hcm
  obtain ⟨out, clks⟩ := s
  simp only at hl hl2 h5 hcl hcl2 hcm
  clear he he2
  unfold mkStep
  simp only
  split
  · refine ⟨g.good, fun c hx => ?_, fun e hx => ?_⟩
    · rcases List.mem_or_eq_of_mem_set hx with hx | rfl
      · exact g.clo c hx
      · exact hcl.join hcl2
    · have h1 := g.own e hx
      have h2 := k.r e hx
      simp only at h1 h2 ⊢
      by_cases hre : e.r.toNat = (ch.r % 5).toNat
      · rw [hre] at h1 ⊢
        rw [getD_set_eq hl, Clk.join_get _ _ _ (by omega)]
        omega
      · rw [getD_set_ne hre]
        exact h1
  · obtain ⟨R, hR⟩ : ∃ R, R = ch.r % 5 := ⟨_, rfl⟩
    rw [← hR] at hl hcl hcm ⊢
    have hR5 : 0 ≤ R ∧ R < 5 := by omega
    generalize hcc : clks.getD R.toNat Clk.zero = c at hcl hcm ⊢
    have hgR := hcm R.toNat
    have hk := k.h
    have hkl := k.len
    simp only at hk hkl
    have hhb := height_bd (c := c) hk hm.1
    have hno : ∀ e ∈ out, e.r = R → e.n ≤ c.get R.toNat := fun e hx hr => by
      have := g.own e hx
      simp only at this
      rw [hr, hcc] at this
      exact this
    obtain ⟨v, hv⟩ : ∃ v : Ev, v = ⟨R, c.get R.toNat + 1, c, heightP out c, ch.ed.fit⟩ := ⟨_, rfl⟩
    rw [← hv]
    have vr : v.r = R := by rw [hv]
    have vn : v.n = c.get R.toNat + 1 := by rw [hv]
    have vc : v.c = c := by rw [hv]
    have vh : v.h = heightP out c := by rw [hv]
    have hnov : ∀ x : Clk, Closed out x → x.has v.r v.n = false := fun x hx => by
      cases hh : x.has v.r v.n
      · rfl
      · obtain ⟨a, ha, e1, _⟩ := hx.2 _ _ hh
        obtain ⟨e2, e3⟩ := mk_of e1
        have := hno a ha (by omega)
        omega
    have hold : ∀ e ∈ out, Closed out e.c := fun e hx => ⟨fun j => by
      by_cases hj : j < 5
      · exact ((g.good.right.may e hx).c j hj).1
      · have : e.c.get j = 0 := by
          match j, hj with
          | 0, h => omega
          | 1, h => omega
          | 2, h => omega
          | 3, h => omega
          | 4, h => omega
          | j + 5, _ => simp [Clk.get]
        omega, g.good.right.all e hx⟩
    have hset : c.le (c.set R.toNat (c.get R.toNat + 1)) = true := (Clk.le_iff _ _).2 fun j hj => by
      rw [Clk.get_set _ _ _ _ (by omega)]
      split
      · rename_i h; subst h; omega
      · exact Int.le_refl _
    refine ⟨⟨⟨fun e hx => ?_, ?_, fun e hx r n hh => ?_, fun e hx => ?_⟩, ?_⟩, fun x hx => ?_, fun e hx => ?_⟩
    · rcases List.mem_append.1 hx with hx | hx
      · exact g.good.right.may e hx
      · simp only [List.mem_singleton] at hx
        subst hx
        refine ⟨by omega, by omega, by rw [vh]; unfold heightP; omega, fun i hi => ?_, by rw [vc, vr, vn]; omega, by rw [hv]; exact fit_err _⟩
        rw [vc]
        have := hcm i
        omega
    · refine List.pairwise_append.2 ⟨g.good.right.dst, by simp, fun a ha b hb hab => ?_⟩
      simp only [List.mem_singleton] at hb
      subst hb
      obtain ⟨e1, e2⟩ := mk_of (a := a) (r := b.r) (n := b.n) hab
      have := hno a ha (by omega)
      omega
    · rcases List.mem_append.1 hx with hx | hx
      · obtain ⟨a, ha, e1, h2⟩ := g.good.right.all e hx r n hh
        exact ⟨a, List.mem_append_left _ ha, e1, h2⟩
      · simp only [List.mem_singleton] at hx
        subst hx
        rw [vc] at hh ⊢
        obtain ⟨a, ha, e1, h2⟩ := hcl.2 r n hh
        exact ⟨a, List.mem_append_left _ ha, e1, h2⟩
    · have hx2 : Closed out e.c ∧ HighIs out e.c e.h := by
        rcases List.mem_append.1 hx with hx | hx
        · exact ⟨hold e hx, g.good.right.high e hx⟩
        · simp only [List.mem_singleton] at hx
          subst hx
          rw [vc, vh]
          exact ⟨hcl, heightP_is out c⟩
      refine hx2.2.congr fun a hh => ⟨List.mem_append_left _, fun ha => ?_⟩
      rcases List.mem_append.1 ha with ha | ha
      · exact ha
      · simp only [List.mem_singleton] at ha
        subst ha
        rw [hnov _ hx2.1] at hh
        cases hh
    · refine g.good.ord.snoc fun r n hh => ?_
      rw [vc] at hh
      obtain ⟨a, ha, e1, _⟩ := hcl.2 r n hh
      exact mem_marks.2 ⟨a, ha, e1⟩
    · rcases List.mem_or_eq_of_mem_set hx with hx | rfl
      · exact (g.clo x hx).more _
      · refine ⟨fun j => ?_, fun r n hh => ?_⟩
        · rw [Clk.get_set _ _ _ _ (by omega)]
          split
          · omega
          · exact (hcm j).1
        · cases hch : c.has r n
          · obtain ⟨h0, h1, h2, h3⟩ := (Clk.has_iff _ _ _).1 hh
            rw [Clk.get_set _ _ _ _ (by omega)] at h3
            have hrn : r = R ∧ n = c.get R.toNat + 1 := by
              refine Classical.byContradiction fun hc2 => ?_
              have : c.has r n = true := (Clk.has_iff _ _ _).2 ⟨h0, h1, h2, by
                split at h3
                · rename_i h
                  have : r = R := by omega
                  subst this
                  omega
                · exact h3⟩
              rw [hch] at this
              cases this
            exact ⟨v, by simp, by simp only [Ev.mk_, vr, vn, hrn.1, hrn.2], by rw [vc]; exact hset⟩
          · obtain ⟨a, ha, e1, h2⟩ := hcl.2 r n hch
            exact ⟨a, List.mem_append_left _ ha, e1, le_trans_clk h2 hset⟩
    · by_cases hre : e.r.toNat = R.toNat
      · have h1 : (clks.set R.toNat (c.set R.toNat (c.get R.toNat + 1))).getD e.r.toNat Clk.zero = c.set R.toNat (c.get R.toNat + 1) := by
          rw [hre]; exact getD_set_eq hl _ _
        rw [h1, Clk.get_set _ _ _ _ (by omega), if_pos hre]
        rcases List.mem_append.1 hx with hx | hx
        · have h2 := k.r e hx
          have := hno e hx (by omega)
          omega
        · simp only [List.mem_singleton] at hx
          subst hx
          omega
      · have h1 : (clks.set R.toNat (c.set R.toNat (c.get R.toNat + 1))).getD e.r.toNat Clk.zero = clks.getD e.r.toNat Clk.zero := by
          exact getD_set_ne hre _ _
        rw [h1]
        rcases List.mem_append.1 hx with hx | hx
        · exact g.own e hx
        · simp only [List.mem_singleton] at hx
          subst hx
          rw [vr] at hre
          omega
theorem makeP_good (l : List Ch) (hl : l.length ≤ 100000) (h : ∀ c ∈ l, c.Ok) : GoodP (makeP l) := by
  have key : ∀ i, i ≤ l.length → MkG (makeS (l.take i)) := by
    intro i
    induction i with
    | zero =>
      intro _
      refine ⟨⟨RightQ.nil, OrdQ.nil⟩, fun c hc => ?_, by simp [makeS]⟩
      have : c = Clk.zero := List.eq_of_mem_replicate hc
      subst this
      refine ⟨fun j => by rw [zero_get]; exact Int.le_refl _, fun r n hh => ?_⟩
      obtain ⟨_, _, h2, h3⟩ := (Clk.has_iff _ _ _).1 hh
      rw [zero_get] at h3
      omega
    | succ i ih =>
      intro hi
      rw [makeS_take l i (by omega)]
      have hk := makeS_ok (l.take i) fun c hc => h c (List.mem_of_mem_take hc)
      exact MkG.step hk (by rw [List.length_take]; omega) (ih (by omega)) (h _ (List.getElem_mem (by omega : i < l.length)))
  have := (key l.length (Nat.le_refl _)).good
  rwa [List.take_length] at this
theorem GoodP.dlv {w : List Ev} (h : GoodP w) (k : Nat) : Dlv w (w.take k) := ⟨fun e he => List.mem_of_mem_take he, h.right.dst.sublist (List.take_sublist ..), h.ord.take k⟩
theorem fresh_of {c : Clk} {X w : List Ev} (hw : Dst w) (hX : ∀ e ∈ X, e ∈ w) {e : Ev} (he : e ∈ X) (hc : c.has e.r e.n = false) : e ∈ freshL c X := by
  have h := freshL_any c X e hc
  rw [show (X.any fun y => decide (y.mk_ = e.mk_)) = true from List.any_eq_true.2 ⟨e, he, decide_eq_true rfl⟩] at h
  obtain ⟨y, hy, hye⟩ := List.any_eq_true.1 h
  have := hw.same (hX y (freshL_mem c X y hy)) (hX e he) (of_decide_eq_true hye)
  subst this
  exact hy
/-- Whatever is there with all that is below it is delivered. -/
theorem drain_all {w log : List Ev} (hw : GoodP w) (hl : Dlv w log) {X : List Ev} (hX : ∀ e ∈ X, e ∈ w) (T : Ev → Prop) (hT : ∀ e ∈ w, T e → ∀ a ∈ w, e.c.has a.r a.n = true → T a)
    (hTX : ∀ e ∈ w, T e → e ∈ X ∨ (clockP log).has e.r e.n = true) : ∀ e ∈ w, T e → (drain (clockP log) (freshL (clockP log) X)).2.2.has e.r e.n = true := by
  have hd := fresh_dst (clockP log) X
  obtain ⟨h1, h2⟩ := fresh_dlv hw.right hl hX
  have hle := drain_le (clockP log) _ hd
  have hend := drain_end (clockP log) _ hd
  have hleft := drain_left_eq (clockP log) _ hd (freshL_has _ X)
  generalize drain (clockP log) (freshL (clockP log) X) = D at h1 h2 hle hend hleft ⊢
  intro e he hTe
  refine Classical.byContradiction fun hc => ?_
  obtain ⟨w1, x, w2, hwx, ⟨hTx, hxN⟩, hall⟩ := first_of (fun e => T e ∧ ¬ D.2.2.has e.r e.n = true) w ⟨e, he, hTe, hc⟩
  have hxw : x ∈ w := by rw [hwx]; simp
  have hxc : x.c.le D.2.2 = true := by
    rw [h2]
    refine le_clockP.2 fun r n hh => ?_
    obtain ⟨a, ha, e1⟩ := mem_marks.1 (hw.ord w1 x w2 hwx r n hh)
    obtain ⟨e2, e3⟩ := mk_of e1
    have haw : a ∈ w := by rw [hwx]; simp [ha]
    have hTa := hT x hxw hTx a haw (by rw [e2, e3]; exact hh)
    have := hall a ha
    have haN : D.2.2.has a.r a.n = true := Classical.byContradiction fun hc => this ⟨hTa, hc⟩
    rw [h2] at haN
    have := has_clockP haN
    rwa [e2, e3] at this
  have hxf : x ∈ freshL (clockP log) X := by
    rcases hTX x hxw hTx with h | h
    · refine fresh_of hw.right.dst hX h ?_
      cases hh : (clockP log).has x.r x.n
      · rfl
      · exact absurd (has_mono hle hh) hxN
    · exact absurd (has_mono hle h) hxN
  have hxl : x ∈ D.2.1 := by
    rw [hleft]
    refine List.mem_filter.2 ⟨hxf, ?_⟩
    simpa using hxN
  have hy := hw.right.may x hxw
  have hr := hy.r
  have h3 := (Clk.le_iff _ _).1 hxc x.r.toNat (by omega)
  rw [hy.own] at h3
  have hn := hy.n
  have h4 : ¬ x.n ≤ D.2.2.get x.r.toNat := fun h => hxN ((Clk.has_iff _ _ _).2 ⟨hr.1, hr.2, hn.1, h⟩)
  obtain ⟨i, hi⟩ := exists_next (c := D.2.2) (l := D.2.1) ⟨x, hxl, hr.1, hr.2, hn.1, by omega, hxc⟩
  exact hend i hi
/-- Ready, of a past. -/
theorem rdy_iff {w log : List Ev} (hw : RightQ w) (hl : Dlv w log) {e : Ev} (he : e ∈ w) (hn : e ∉ log) : e.rdy (clockP log) ↔ e.c.le (clockP log) = true := by
  constructor
  · exact fun h => h.2.2.2.2
  · intro h
    have hy := hw.may e he
    have hr := hy.r
    have h3 := (Clk.le_iff _ _).1 h e.r.toNat (by omega)
    rw [hy.own] at h3
    have h4 : ¬ e.n ≤ (clockP log).get e.r.toNat := fun h => hn ((hl.has_mem hw he).1 ((Clk.has_iff _ _ _).2 ⟨hr.1, hr.2, hy.n.1, h⟩))
    exact ⟨hr.1, hr.2, hy.n.1, by omega, h⟩
theorem not_rdy_had {c : Clk} {e : Ev} (h : c.has e.r e.n = true) : ¬ e.rdy c := fun k => by
  obtain ⟨_, _, _, h3⟩ := (Clk.has_iff _ _ _).1 h
  have := k.2.2.2.1
  omega
theorem GoodP.nth {w : List Ev} (h : GoodP w) {k : Nat} (hk : k < w.length) : (w[k]'hk).c.le (clockP (w.take k)) = true := OrdQ.iff.2 h.ord k hk
theorem GoodP.not_take {w : List Ev} (h : GoodP w) {k n : Nat} (hk : k < w.length) (hn : n ≤ k) : w[k]'hk ∉ w.take n := fun hm => by
  obtain ⟨i, hi, e⟩ := List.getElem_of_mem hm
  rw [List.length_take] at hi
  rw [List.getElem_take] at e
  have := h.right.dst.inj (show i < w.length by omega) hk (by rw [e])
  omega
theorem GoodP.clock_succ {w : List Ev} (h : GoodP w) {k : Nat} (hk : k < w.length) : clockP (w.take (k + 1)) = (clockP (w.take k)).set (w[k]'hk).r.toNat (w[k]'hk).n := by
  rw [List.take_succ_eq_append_getElem hk]
  exact ((h.dlv k).step h.right (List.getElem_mem hk) ((rdy_iff h.right (h.dlv k) (List.getElem_mem hk) (h.not_take hk (Nat.le_refl _))).2 (h.nth hk))).2
theorem GoodP.rdy {w : List Ev} (h : GoodP w) {k : Nat} (hk : k < w.length) : (w[k]'hk).rdy (clockP (w.take k)) := (rdy_iff h.right (h.dlv k) (List.getElem_mem hk) (h.not_take hk (Nat.le_refl _))).2 (h.nth hk)
theorem GoodP.pre {w : List Ev} (h : GoodP w) (k : Nat) : GoodP (w.take k) := ⟨(h.dlv k).right h.right, h.ord.take k⟩
theorem GoodP.nil : GoodP [] := ⟨RightQ.nil, OrdQ.nil⟩
/-- A list of a past's events: all of them, none twice. -/
theorem all_perm {w log : List Ev} (hw : RightQ w) (hd : Dst log) (hs : ∀ e ∈ log, e ∈ w) (ha : ∀ e ∈ w, e ∈ log) : log.Perm w := by
  have n1 : log.Nodup := hd.imp fun h e => h (by rw [e])
  have n2 : w.Nodup := hw.dst.imp fun h e => h (by rw [e])
  exact (List.perm_ext_iff_of_nodup n1 n2).2 fun a => ⟨hs a, ha a⟩
theorem perm_marks {w log : List Ev} (h : log.Perm w) (k : Mk) : k ∈ marks log ↔ k ∈ marks w := (h.map Ev.mk_).mem_iff
end Go.Proofs.Ytcclbplccnaonaa
/- Heights and their range. No condition. -/
namespace Go.Proofs.Ytcclbplccnaonaa
open Go.RowKit
set_option linter.unusedSimpArgs false
set_option linter.unusedVariables false
theorem wrap_in {x : Int} (h : I64 x) : IntKind.i64.wrap x = x := by
  unfold I64 at h
  rw [IntKind.wrap_i64]
  omega
theorem height_rng {out : List Ev} (c : Clk) (h : ∀ e ∈ out, I64 e.h) : I64 (out.foldl (heightS c) (0, false)).1 := by
  have key : ∀ (l : List Ev) (s : Int × Bool), (∀ e ∈ l, I64 e.h) → I64 s.1 → I64 (l.foldl (heightS c) s).1 := by
    intro l
    induction l with
    | nil => intro s _ h; exact h
    | cons a l ih =>
      intro s hl hs
      refine ih _ (fun e he => hl e (List.mem_cons_of_mem _ he)) ?_
      have := hl a (List.mem_cons_self ..)
      unfold heightS
      split
      · exact this
      · exact hs
  exact key out (0, false) h (by unfold I64; omega)
end Go.Proofs.Ytcclbplccnaonaa
/- A variable that is an array of things, at places that are not literal. No condition. -/
namespace Go.Proofs.Ytcclbplccnaonaa
open Go.RowKit
set_option linter.unusedSimpArgs false
set_option linter.unusedVariables false
theorem cellsOf_get1 {α : Type} [Rep α] {xs : List α} {j : Nat} (hj : j < xs.length) : ((cellsOf xs).drop (j * Rep.sz α)).take (Rep.sz α) = Rep.cells (xs[j]'hj) := by
  rw [cellsOf_drop, List.drop_eq_getElem_cons hj]
  show ((Rep.cells (xs[j]'hj)) ++ cellsOf (xs.drop (j + 1))).take (Rep.sz α) = _
  rw [← Rep.len (xs[j]'hj), List.take_left]
theorem cellsOf_setA {α : Type} [Rep α] {xs : List α} {j : Nat} (hj : j < xs.length) (a : α) : (cellsOf xs).take (j * Rep.sz α) ++ Rep.cells a ++ (cellsOf xs).drop (j * Rep.sz α + Rep.sz α) = cellsOf (xs.set j a) := by
  have e : xs.set j a = xs.take j ++ a :: xs.drop (j + 1) := List.set_eq_take_append_cons_drop .. |>.trans (by rw [if_pos hj])
  rw [e, cellsOf_append, cellsOf_take, ← Nat.succ_mul, cellsOf_drop]
  show cellsOf (xs.take j) ++ Rep.cells a ++ cellsOf (xs.drop (j + 1)) = cellsOf (xs.take j) ++ (Rep.cells a ++ cellsOf (xs.drop (j + 1)))
  rw [List.append_assoc]
section
variable {P : Program} {n : Nat} {ops : Array Oper} {Q : Post} {f : Nat → Value} {L : List Assn} {rest : List Oper} {d : Nat} {ty : TypeId} {pos : String} {af : Array Edge} {gd : Option (Nat × Bool)}
variable {α : Type} [Rep α] {xs : List α}
/-- A whole thing. -/
theorem vl_loadBA (i : Nat) {t bt : TypeId} {x : Operand} {g j sz : Nat} (hx : evalF f x = .pointer (some ⟨g, 0 + j * sz, none⟩)) (hi : L[i]? = some (Blk g bt (cellsOf xs))) (hA : aggB P t = some true) (hm : P.cellsOf t = sz) (hsz : Rep.sz α = sz) (hj : j < xs.length) :
    Val P ⟨some d, .load t x, ty, pos, af, gd⟩ f L (.agg (Rep.cells (xs[j]'hj)).toArray) := fun F w s => by
  subst hsz
  have := run_loadVarA (P := P) w (t := t) (a := ⟨g, 0 + j * Rep.sz α, none⟩) (cs := Rep.cells (xs[j]'hj)) hA (by rw [hm, Rep.len]) (by rw [Rep.len]; exact Rep.pos) (fun k u hk => by
    rw [addr_add]
    rw [← cellsOf_get1 hj] at hk
    have := take_drop_get hk
    rw [Nat.zero_add]
    exact blk_cell hi this s)
  rw [Nat.zero_add] at hx this
  simp [execOp, hx, Instr.loadAt, Instr.sureAddr, this]
/-- A cell of a thing. -/
theorem vl_loadB1 (i : Nat) {t bt : TypeId} {x : Operand} {g j o sz : Nat} {v : Value} (hx : evalF f x = .pointer (some ⟨g, 0 + j * sz + o * 1, none⟩)) (hi : L[i]? = some (Blk g bt (cellsOf xs))) (hA : aggB P t = some false) (hsz : Rep.sz α = sz) (hj : j < xs.length) (ho : o < sz) (hv : (Rep.cells (xs[j]'hj))[o]? = some v) :
    Val P ⟨some d, .load t x, ty, pos, af, gd⟩ f L v := fun F w s => by
  subst hsz
  have h := cellsOf_get hj ho
  rw [hv] at h
  rw [Nat.zero_add, Nat.mul_one] at hx
  have := run_loadVar1 (P := P) w hA (blk_cell hi h s)
  simp [execOp, hx, Instr.loadAt, Instr.sureAddr, this]
theorem st_storeBA (i : Nat) {t bt : TypeId} {x y : Operand} {g j sz : Nat} {a : α} {L' : List Assn} (hx : evalF f x = .pointer (some ⟨g, 0 + j * sz, none⟩)) (hi : L[i]? = some (Blk g bt (cellsOf xs))) (hy : evalF f y = .agg (Rep.cells a).toArray) (hm : P.cellsOf t = sz) (hsz : Rep.sz α = sz) (hj : j < xs.length)
    (hL : L.set i (Blk g bt (cellsOf (xs.set j a))) = L') (h : ExL P n ops rest Q f L') : ExL P n ops (⟨none, .store t x y, ty, pos, af, none⟩ :: rest) Q f L := by
  subst hsz
  refine st_storeA i hx hy (Rep.one a) hi (by rw [hm, Rep.len]) (by rw [Rep.len]; exact Nat.ble_eq_true_of_le (show 0 + 1 ≤ _ from Rep.pos)) (by
    rw [Rep.len, cellsOf_len, Nat.zero_add, ← Nat.succ_mul]
    exact Nat.ble_eq_true_of_le (Nat.mul_le_mul_right _ (by omega))) ?_ h
  rw [Rep.len, Nat.zero_add, cellsOf_setA hj a, hL]
theorem st_storeB1 (i : Nat) {t bt : TypeId} {x y : Operand} {g j o sz : Nat} {v : Value} {a : α} {L' : List Assn} (hx : evalF f x = .pointer (some ⟨g, 0 + j * sz + o * 1, none⟩)) (hi : L[i]? = some (Blk g bt (cellsOf xs))) (hy : evalF f y = v) (h1 : v.oneCell' = true) (hm : P.cellsOf t = 1) (hsz : Rep.sz α = sz) (hj : j < xs.length) (ho : o < sz)
    (ha : Rep.cells a = (Rep.cells (xs[j]'hj)).set o v) (hL : L.set i (Blk g bt (cellsOf (xs.set j a))) = L') (h : ExL P n ops rest Q f L') : ExL P n ops (⟨none, .store t x y, ty, pos, af, none⟩ :: rest) Q f L := by
  subst hsz
  have e := cellsOf_set (u := v) hj ho ha
  refine st_store1 i hx hy h1 hi hm (Nat.ble_eq_true_of_le (by
    rw [cellsOf_len, Nat.zero_add, Nat.mul_one]
    have : (j + 1) * Rep.sz α ≤ xs.length * Rep.sz α := Nat.mul_le_mul_right _ (by omega)
    rw [Nat.succ_mul] at this
    omega)) ?_ h
  rw [Nat.zero_add, Nat.mul_one, e, hL]
end
end Go.Proofs.Ytcclbplccnaonaa
/- kithref03.Join, kithref08.Height, walked. No condition. -/
namespace Go.Proofs.Ytcclbplccnaonaa
open Go.RowKit
set_option linter.unusedSimpArgs false
set_option linter.unusedVariables false
set_option maxRecDepth 20000 attribute [local irreducible] Ex ExL Fn thn inb rnd fin meet Tab Mix mxEnd Val Sats RdT Rd RowT Row Blk Sub Fac ResV RVal Evs subs subs3 Hid Capd
set_option maxHeartbeats 1000000 in
theorem rjoin_F (x y : Clk) (M : List Assn) : Fn Try.prog 28 #[x.val, y.val] M fun v L' => v = .agg (Rep.cells (x.join y)).toArray ∧ L' = M := by
  refine Fn.of_ex Try.func28 rfl Try.ntmps28 rfl ?_
  (refine rn ?_; (repeat (first | intro (g : Nat) | intro (v : Value) | intro (o : Value.oneCell' _ = true) | intro (cs : List Value) | intro (hcs : _ = List.set _ _ _) | intro (zs : List _) | intro (hzs : _))))
  revert g
  intro g5
  revert g
  intro g4
  revert g
  intro g3
  revert g
  intro g2
  refine Ex.loop [6] (fun m vs L' => ∃ (i : Nat) (o : Clk), i ≤ 5 ∧ m = 5 - i ∧ vs = [.int .i64 i] ∧ (∀ j, j < i → o.get j = max (x.get j) (y.get j)) ∧ L' = Blk g5 29 (Rep.cells o) :: Blk g4 29 (Rep.cells Clk.zero) :: Blk g3 29 (Rep.cells y) :: Blk g2 29 (Rep.cells x) :: M) 5 ⟨0, Clk.zero, by omega, rfl, rfl, fun j hj => by omega, rfl⟩ ?_
  rintro m vs g1 L' ⟨i, o, hi, rfl, rfl, hall, rfl⟩
  refine Ex.keep [2, 3, 4, 5, 6] rG (fun gk => ?_)
  by_cases hlt : i < 5
  · have e1 := Clk.getD_eq x (i : Int).toNat
    have e2 := Clk.getD_eq y (i : Int).toNat
    rw [show x.get (i : Int).toNat = x.get i from rfl] at e1
    rw [show y.get (i : Int).toNat = y.get i from rfl] at e2
    have hcl : (Rep.cells o).length = 5 := rfl
    (refine rn ?_; (repeat (first | intro (g : Nat) | intro (v : Value) | intro (o : Value.oneCell' _ = true) | intro (cs : List Value) | intro (hcs : _ = List.set _ _ _) | intro (zs : List _) | intro (hzs : _))))
    (refine Ex.mixA 8 _ rfl (by kernel_rfl) (Fac.refl _) ?_; (refine mn ?_; (repeat (first | intro (g : Nat) | intro (v : Value) | intro (o : Value.oneCell' _ = true) | intro (cs : List Value) | intro (hcs : _ = List.set _ _ _) | intro (zs : List _) | intro (hzs : _)))))
    (refine rn ?_; (repeat (first | intro (g : Nat) | intro (v : Value) | intro (o : Value.oneCell' _ = true) | intro (cs : List Value) | intro (hcs : _ = List.set _ _ _) | intro (zs : List _) | intro (hzs : _))))
    rw [show (0 + (i : Int).toNat * 1) = i by omega, Clk.cells_set o i hlt, e1, e2] at hcs
    subst hcs
    exact rnd_n ⟨5 - (i + 1), Blk g5 29 (Rep.cells (o.set i (max (x.get i) (y.get i)))) :: Blk g4 29 (Rep.cells Clk.zero) :: Blk g3 29 (Rep.cells y) :: Blk g2 29 (Rep.cells x) :: M, by omega, rB, i + 1, _, by omega, by omega, lcons (vint (by omega)) rfl, (fun j hj => by
      rw [Clk.get_set _ _ _ _ hlt]
      split
      · rename_i h; rw [h]
      · exact hall j (by omega)), rfl⟩
  · have ho : o = x.join y := Clk.ext_get fun j hj => by rw [Clk.join_get _ _ _ hj]; exact hall j (by omega)
    subst ho
    (refine rn ?_; (repeat (first | intro (g : Nat) | intro (v : Value) | intro (o : Value.oneCell' _ = true) | intro (cs : List Value) | intro (hcs : _ = List.set _ _ _) | intro (zs : List _) | intro (hzs : _))))
    (first | refine fin_ret rS ?_ | refine fin_norm rS ?_)
    exact ⟨_, rB, rfl, rfl⟩
set_option maxHeartbeats 1000000 in
theorem heightW_F (v0 : Value) (out : List Ev) (c : Clk) (M : List Assn) (hr : RdT M v0 out) (hl : out.length ≤ 1000000) (hh : ∀ e ∈ out, I64 e.h) : Fn Try.prog 24 #[v0, c.val] M fun v L' => v = .int .i64 (IntKind.i64.wrap (heightP out c)) ∧ L' = M := by
  refine Fn.of_ex Try.func24 rfl Try.ntmps24 rfl ?_
  (refine rn ?_; (repeat (first | intro (g : Nat) | intro (v : Value) | intro (o : Value.oneCell' _ = true) | intro (cs : List Value) | intro (hcs : _ = List.set _ _ _) | intro (zs : List _) | intro (hzs : _))))
  refine Ex.loopS [5, 6, 7] (fun m vs => ∃ (i : Nat), i ≤ out.length ∧ m = out.length - i ∧ vs = [.int .i64 ((out.take i).foldl (heightS c) (0, false)).1, .bool ((out.take i).foldl (heightS c) (0, false)).2, .int .i64 i]) out.length ⟨0, by omega, by omega, rfl⟩ ?_
  rintro m vs g1 ⟨i, hi, rfl, rfl⟩
  refine Ex.keep [0, 3, 5, 6, 7] rG (fun gk => ?_)
  by_cases hlt : i < out.length
  · have hst : (out.take (i + 1)).foldl (heightS c) (0, false) = heightS c ((out.take i).foldl (heightS c) (0, false)) (out[i]'hlt) := by
      rw [List.take_succ_eq_append_getElem hlt, List.foldl_append]; rfl
    have hnx : ∀ X : Int × Bool, (out.take (i + 1)).foldl (heightS c) (0, false) = X → ∃ (j : Nat), j ≤ out.length ∧ out.length - (i + 1) = out.length - j ∧ [Value.int .i64 X.1, .bool X.2, .int .i64 (i + 1)] = [.int .i64 ((out.take j).foldl (heightS c) (0, false)).1, .bool ((out.take j).foldl (heightS c) (0, false)).2, .int .i64 j] := fun X hX => ⟨i + 1, by omega, rfl, by rw [hX]; rfl⟩
    generalize (out.take i).foldl (heightS c) (0, false) = s at hst ⊢
    obtain ⟨h, a⟩ := s
    unfold heightS at hst
    simp only at hst
    (refine rn ?_; (repeat (first | intro (g : Nat) | intro (v : Value) | intro (o : Value.oneCell' _ = true) | intro (cs : List Value) | intro (hcs : _ = List.set _ _ _) | intro (zs : List _) | intro (hzs : _))))
    (refine Ex.mixA 12 _ rfl (by kernel_rfl) (Fac.refl _) ?_; (refine mn ?_; (repeat (first | intro (g : Nat) | intro (v : Value) | intro (o : Value.oneCell' _ = true) | intro (cs : List Value) | intro (hcs : _ = List.set _ _ _) | intro (zs : List _) | intro (hzs : _)))))
    (refine mx_act (by rfl) (by rfl) (by rfl) ?_; refine st_callIs [] (by rfl) Try.call41 rE (by rfl) (rhas_F c (out[i]'hlt).r (out[i]'hlt).n _) ?_)
    rintro _ _ ⟨rfl, rfl⟩
    cases hb : c.has (out[i]'hlt).r (out[i]'hlt).n
    · rw [if_neg (by rw [hb]; simp)] at hst
      have hn := hnx _ hst
      clear hnx hst
      (refine ExL.nil ?_; refine mxEnd_n rF ?_; (refine mn ?_; (repeat (first | intro (g : Nat) | intro (v : Value) | intro (o : Value.oneCell' _ = true) | intro (cs : List Value) | intro (hcs : _ = List.set _ _ _) | intro (zs : List _) | intro (hzs : _)))))
      (refine rn ?_; (repeat (first | intro (g : Nat) | intro (v : Value) | intro (o : Value.oneCell' _ = true) | intro (cs : List Value) | intro (hcs : _ = List.set _ _ _) | intro (zs : List _) | intro (hzs : _))))
      exact rnd_n ⟨out.length - (i + 1), _, by omega, Sub.refl _, hn, rfl⟩
    · cases a
      · rw [if_pos ⟨hb, .inl rfl⟩] at hst
        have hn := hnx _ hst
        clear hnx hst
        (refine ExL.nil ?_; refine mxEnd_n rF ?_; (refine mn ?_; (repeat (first | intro (g : Nat) | intro (v : Value) | intro (o : Value.oneCell' _ = true) | intro (cs : List Value) | intro (hcs : _ = List.set _ _ _) | intro (zs : List _) | intro (hzs : _)))))
        (refine rn ?_; (repeat (first | intro (g : Nat) | intro (v : Value) | intro (o : Value.oneCell' _ = true) | intro (cs : List Value) | intro (hcs : _ = List.set _ _ _) | intro (zs : List _) | intro (hzs : _))))
        exact rnd_n ⟨out.length - (i + 1), _, by omega, Sub.refl _, hn, rfl⟩
      · by_cases hgt : h < (out[i]'hlt).h
        · rw [if_pos ⟨hb, .inr hgt⟩] at hst
          have hn := hnx _ hst
          clear hnx hst
          (refine ExL.nil ?_; refine mxEnd_n rF ?_; (refine mn ?_; (repeat (first | intro (g : Nat) | intro (v : Value) | intro (o : Value.oneCell' _ = true) | intro (cs : List Value) | intro (hcs : _ = List.set _ _ _) | intro (zs : List _) | intro (hzs : _)))))
          (refine rn ?_; (repeat (first | intro (g : Nat) | intro (v : Value) | intro (o : Value.oneCell' _ = true) | intro (cs : List Value) | intro (hcs : _ = List.set _ _ _) | intro (zs : List _) | intro (hzs : _))))
          exact rnd_n ⟨out.length - (i + 1), _, by omega, Sub.refl _, hn, rfl⟩
        · rw [if_neg (by rintro ⟨_, h1 | h1⟩; cases h1; exact hgt h1)] at hst
          have hn := hnx _ hst
          clear hnx hst
          (refine ExL.nil ?_; refine mxEnd_n rF ?_; (refine mn ?_; (repeat (first | intro (g : Nat) | intro (v : Value) | intro (o : Value.oneCell' _ = true) | intro (cs : List Value) | intro (hcs : _ = List.set _ _ _) | intro (zs : List _) | intro (hzs : _)))))
          (refine rn ?_; (repeat (first | intro (g : Nat) | intro (v : Value) | intro (o : Value.oneCell' _ = true) | intro (cs : List Value) | intro (hcs : _ = List.set _ _ _) | intro (zs : List _) | intro (hzs : _))))
          exact rnd_n ⟨out.length - (i + 1), _, by omega, Sub.refl _, hn, rfl⟩
  · obtain rfl : i = out.length := by omega
    rw [List.take_length]
    have hb := height_rng c hh
    unfold heightP
    have hw := wrap_in (x := (out.foldl (heightS c) (0, false)).1 + 1)
    unfold I64 at hb hw
    by_cases hmx : (out.foldl (heightS c) (0, false)).1 = 9223372036854775807
    · clear hw
      (refine rn ?_; (repeat (first | intro (g : Nat) | intro (v : Value) | intro (o : Value.oneCell' _ = true) | intro (cs : List Value) | intro (hcs : _ = List.set _ _ _) | intro (zs : List _) | intro (hzs : _))))
      (first | refine fin_ret rS ?_ | refine fin_norm rS ?_)
      exact ⟨_, rB, rfl, rfl⟩
    · rw [hw (by omega)]
      clear hw
      (refine rn ?_; (repeat (first | intro (g : Nat) | intro (v : Value) | intro (o : Value.oneCell' _ = true) | intro (cs : List Value) | intro (hcs : _ = List.set _ _ _) | intro (zs : List _) | intro (hzs : _))))
      (first | refine fin_ret rS ?_ | refine fin_norm rS ?_)
      exact ⟨_, rB, rfl, rfl⟩
theorem height_F (v0 : Value) (out : List Ev) (c : Clk) (M : List Assn) (hr : RdT M v0 out) (hl : out.length ≤ 1000000) (hh : ∀ e ∈ out, 1 ≤ e.h ∧ e.h ≤ 1000000) : Fn Try.prog 24 #[v0, c.val] M fun v L' => v = .int .i64 (heightP out c) ∧ L' = M := by
  have h := heightW_F v0 out c M hr hl (fun e he => by have := hh e he; unfold I64; omega)
  have hb := height_bd (c := c) hh (by omega)
  rw [wrap_in (x := heightP out c) (by unfold I64 heightP; omega)] at h
  exact h
end Go.Proofs.Ytcclbplccnaonaa
/- kithref08.Make, walked. No condition. -/
namespace Go.Proofs.Ytcclbplccnaonaa
open Go.RowKit
set_option linter.unusedSimpArgs false
set_option linter.unusedVariables false
@[reducible] def StM (g4 : Nat) (v3 : Value) (out : List Ev) (hv : List Clk) (M : List Assn) : List Assn := Evs_ v3 out :: Blk g4 48 (cellsOf hv) :: M
theorem Clk.cells_get (c : Clk) (i : Nat) (h : i < 5) : (Rep.cells c)[i]? = some (.int .i64 (c.get i)) := by
  match i, h with
  | 0, _ => rfl
  | 1, _ => rfl
  | 2, _ => rfl
  | 3, _ => rfl
  | 4, _ => rfl
theorem zero5 : cellsOf (List.replicate 5 Clk.zero) = List.replicate 25 (.int .i64 0) := rfl
set_option maxRecDepth 20000 attribute [local irreducible] Ex ExL Fn thn inb rnd fin meet Tab Mix mxEnd Val Sats RdT Rd RowT Row Blk Sub Fac ResV RVal Evs subs subs3 Hid Capd
set_option maxHeartbeats 8000000 in
theorem makePast_F (va : Value) (l : List Ch) (M : List Assn) (hr : RdT M va l) (hl : l.length ≤ 100000) (hok : ∀ c ∈ l, c.Ok) : Fn Try.prog 11 #[va] M fun v L' => v.oneCell' = true ∧ L' = Evs_ v (makeP l) :: M := by
  refine Fn.of_ex Try.func11 rfl Try.ntmps11 rfl ?_
  (refine rn ?_; (repeat (first | intro (g : Nat) | intro (v : Value) | intro (o : Value.oneCell' _ = true) | intro (cs : List Value) | intro (hcs : _ = List.set _ _ _) | intro (zs : List _) | intro (hzs : _))))
  revert g
  intro g4
  revert g
  intro gs
  refine Ex.sub (L' := StM g4 (.slice (some ⟨gs, 0, none⟩) 0 0) [] (List.replicate 5 Clk.zero) M) ?_ (Sub.empty (α := Ev) (some ⟨gs, 0, none⟩) 31 _)
  refine Ex.loop [3, 5] (fun m vs L' => ∃ (i : Nat) (v3 : Value) (s : List Ev × List Clk), i ≤ l.length ∧ m = l.length - i ∧ s = makeS (l.take i) ∧ MkOk i s ∧ v3.oneCell' = true ∧ vs = [v3, .int .i64 i] ∧ L' = StM g4 v3 s.1 s.2 M) l.length ⟨0, _, makeS [], by omega, by omega, rfl, makeS_ok [] (by simp), rfl, rfl, rfl⟩ ?_
  rintro m vs g1 L' ⟨i, v3, s, hi, rfl, hs, hk, o3, rfl, rfl⟩
  obtain ⟨out, hv⟩ := s
  refine Ex.sub (L' := StM g4 v3 out hv M) ?_ (Sub.refl _)
  refine Ex.keep [0, 3, 4, 5] rG (fun gk => ?_)
  by_cases hlt : i < l.length
  · have hch := hok _ (List.getElem_mem hlt)
    have hst := makeS_take l i hlt
    rw [← hs] at hst
    have hk2 := hk.step hch (by omega)
    rw [← hst] at hk2
    obtain ⟨hR, hcR⟩ := getD_mem hk.five hch.r
    obtain ⟨hF, hcF⟩ := getD_mem hk.five hch.f
    have h5 := hk.five
    simp only at hR hcR hF hcF h5
    have hcm := hk.clk _ (List.getElem_mem hR) ((l[i]'hlt).r % 5).toNat
    have hchr := hch.r
    have hchf := hch.f
    unfold mkStep at hst
    simp only at hst
    rw [hcR, hcF] at hst
    (refine rn ?_; (repeat (first | intro (g : Nat) | intro (v : Value) | intro (o : Value.oneCell' _ = true) | intro (cs : List Value) | intro (hcs : _ = List.set _ _ _) | intro (zs : List _) | intro (hzs : _))))
    cases hsy : (l[i]'hlt).sync
    · rw [hsy, if_neg (by simp)] at hst
      have hR5 : ((l[i]'hlt).r % 5).toNat < 5 := by omega
      have hkh : ∀ e ∈ out, 1 ≤ e.h ∧ e.h ≤ 1000000 := fun e he => by have := hk.h e he; omega
      have hkl : out.length ≤ 1000000 := by have h := hk.len; simp only at h; omega
      (refine rn ?_; (repeat (first | intro (g : Nat) | intro (v : Value) | intro (o : Value.oneCell' _ = true) | intro (cs : List Value) | intro (hcs : _ = List.set _ _ _) | intro (zs : List _) | intro (hzs : _))))
      refine st_callIs [] (by rfl) Try.call29 (by rfl) (by rfl) (fit_spec (l[i]'hlt).ed _ hch.k hch.v) ?_
      rintro _ _ ⟨rfl, rfl⟩
      generalize (l[i]'hlt).ed.fit = F at hst ⊢
      generalize hcc : hv[((l[i]'hlt).r % 5).toNat]'hR = c at hst hcm ⊢
      clear hcR hcF
      (refine rn ?_; (repeat (first | intro (g : Nat) | intro (v : Value) | intro (o : Value.oneCell' _ = true) | intro (cs : List Value) | intro (hcs : _ = List.set _ _ _) | intro (zs : List _) | intro (hzs : _))))
      revert g
      intro g7
      refine Ex.reord [1] rE ?_
      (refine Ex.mixA 27 (_ :: _ :: M) rfl (by kernel_rfl) rF ?_; (refine mn ?_; (repeat (first | intro (g : Nat) | intro (v : Value) | intro (o : Value.oneCell' _ = true) | intro (cs : List Value) | intro (hcs : _ = List.set _ _ _) | intro (zs : List _) | intro (hzs : _)))))
      refine mx_val (by rfl) (by rfl) (by rfl) (vl_loadB1 (xs := hv) (o := ((l[i]'hlt).r % 5).toNat) 1 (by rfl) (by rfl) (by rfl) (by rfl) hR hR5 (by rw [hcc]; exact Clk.cells_get c _ hR5)) ?_
      (refine mn ?_; (repeat (first | intro (g : Nat) | intro (v : Value) | intro (o : Value.oneCell' _ = true) | intro (cs : List Value) | intro (hcs : _ = List.set _ _ _) | intro (zs : List _) | intro (hzs : _))))
      refine mx_val (by rfl) (by rfl) (by rfl) (vl_loadBA (xs := hv) 1 (by rfl) (by rfl) (by rfl) (by rfl) (by rfl) hR) ?_
      rw [hcc]
      (refine mn ?_; (repeat (first | intro (g : Nat) | intro (v : Value) | intro (o : Value.oneCell' _ = true) | intro (cs : List Value) | intro (hcs : _ = List.set _ _ _) | intro (zs : List _) | intro (hzs : _))))
      refine mx_val (by rfl) (by rfl) (by rfl) (vl_loadBA (xs := hv) 1 (by rfl) (by rfl) (by rfl) (by rfl) (by rfl) hR) ?_
      rw [hcc]
      (refine mn ?_; (repeat (first | intro (g : Nat) | intro (v : Value) | intro (o : Value.oneCell' _ = true) | intro (cs : List Value) | intro (hcs : _ = List.set _ _ _) | intro (zs : List _) | intro (hzs : _))))
      (refine mx_act (by rfl) (by rfl) (by rfl) ?_; refine st_callIs [] (by rfl) Try.call24 rE (by rfl) (height_F v3 out c _ rD hkl hkh) ?_)
      rintro _ _ ⟨rfl, rfl⟩
      generalize heightP out c = hh at hst ⊢
      (refine ExL.nil ?_; refine mxEnd_n rF ?_; (refine mn ?_; (repeat (first | intro (g : Nat) | intro (v : Value) | intro (o : Value.oneCell' _ = true) | intro (cs : List Value) | intro (hcs : _ = List.set _ _ _) | intro (zs : List _) | intro (hzs : _)))))
      refine mx_slice1T (a := (⟨(l[i]'hlt).r % 5, c.get ((l[i]'hlt).r % 5).toNat + 1, c, hh, F⟩ : Ev)) (by rfl) (by rfl) (by rfl) (by rfl) (fun g => ?_)
      (refine mn ?_; (repeat (first | intro (g : Nat) | intro (v : Value) | intro (o : Value.oneCell' _ = true) | intro (cs : List Value) | intro (hcs : _ = List.set _ _ _) | intro (zs : List _) | intro (hzs : _))))
      (refine rn ?_; (repeat (first | intro (g : Nat) | intro (v : Value) | intro (o : Value.oneCell' _ = true) | intro (cs : List Value) | intro (hcs : _ = List.set _ _ _) | intro (zs : List _) | intro (hzs : _))))
      refine Ex.sub (L' := StM g4 v (out ++ [(⟨(l[i]'hlt).r % 5, c.get ((l[i]'hlt).r % 5).toNat + 1, c, hh, F⟩ : Ev)]) hv M) ?_ rB
      (refine Ex.mixA 9 _ rfl (by kernel_rfl) (Fac.refl _) ?_; (refine mn ?_; (repeat (first | intro (g : Nat) | intro (v : Value) | intro (o : Value.oneCell' _ = true) | intro (cs : List Value) | intro (hcs : _ = List.set _ _ _) | intro (zs : List _) | intro (hzs : _)))))
      refine mx_val (by rfl) (by rfl) (by rfl) (vl_loadB1 (xs := hv) (o := ((l[i]'hlt).r % 5).toNat) 1 (by rfl) (by rfl) (by rfl) (by rfl) hR hR5 (by rw [hcc]; exact Clk.cells_get c _ hR5)) ?_
      (refine mn ?_; (repeat (first | intro (g : Nat) | intro (v : Value) | intro (o : Value.oneCell' _ = true) | intro (cs : List Value) | intro (hcs : _ = List.set _ _ _) | intro (zs : List _) | intro (hzs : _))))
      (refine rn ?_; (repeat (first | intro (g : Nat) | intro (v : Value) | intro (o : Value.oneCell' _ = true) | intro (cs : List Value) | intro (hcs : _ = List.set _ _ _) | intro (zs : List _) | intro (hzs : _))))
      refine st_storeB1 (xs := hv) (a := c.set ((l[i]'hlt).r % 5).toNat (c.get ((l[i]'hlt).r % 5).toNat + 1)) (o := ((l[i]'hlt).r % 5).toNat) 1 (by rfl) (by rfl) (by rfl) rfl (by rfl) (by rfl) hR hR5 (by rw [hcc]; exact (Clk.cells_set c _ hR5 _).symm) rE ?_
      (refine rn ?_; (repeat (first | intro (g : Nat) | intro (v : Value) | intro (o : Value.oneCell' _ = true) | intro (cs : List Value) | intro (hcs : _ = List.set _ _ _) | intro (zs : List _) | intro (hzs : _))))
      exact rnd_n ⟨l.length - (i + 1), _, by omega, rB, i + 1, v, _, by omega, rfl, hst.symm, by rw [← hst]; simpa using hk2, by assumption, lcons rfl (lcons (vint (by omega)) rfl), rfl⟩
    · rw [hsy, if_pos rfl] at hst
      (refine rn ?_; (repeat (first | intro (g : Nat) | intro (v : Value) | intro (o : Value.oneCell' _ = true) | intro (cs : List Value) | intro (hcs : _ = List.set _ _ _) | intro (zs : List _) | intro (hzs : _))))
      (refine Ex.mixA 14 _ rfl (by kernel_rfl) (Fac.refl _) ?_; (refine mn ?_; (repeat (first | intro (g : Nat) | intro (v : Value) | intro (o : Value.oneCell' _ = true) | intro (cs : List Value) | intro (hcs : _ = List.set _ _ _) | intro (zs : List _) | intro (hzs : _)))))
      refine mx_val (by rfl) (by rfl) (by rfl) (vl_loadBA (xs := hv) 1 (by rfl) (by rfl) (by rfl) (by rfl) (by rfl) hR) ?_
      (refine mn ?_; (repeat (first | intro (g : Nat) | intro (v : Value) | intro (o : Value.oneCell' _ = true) | intro (cs : List Value) | intro (hcs : _ = List.set _ _ _) | intro (zs : List _) | intro (hzs : _))))
      refine mx_val (by rfl) (by rfl) (by rfl) (vl_loadBA (xs := hv) 1 (by rfl) (by rfl) (by rfl) (by rfl) (by rfl) hF) ?_
      (refine mn ?_; (repeat (first | intro (g : Nat) | intro (v : Value) | intro (o : Value.oneCell' _ = true) | intro (cs : List Value) | intro (hcs : _ = List.set _ _ _) | intro (zs : List _) | intro (hzs : _))))
      (refine mx_act (by rfl) (by rfl) (by rfl) ?_; refine st_callIs [] (by rfl) Try.call28 rE (by rfl) (rjoin_F (hv[((l[i]'hlt).r % 5).toNat]'hR) (hv[((l[i]'hlt).from_ % 5).toNat]'hF) _) ?_)
      rintro _ _ ⟨rfl, rfl⟩
      (refine ExL.nil ?_; refine mxEnd_n rF ?_; (refine mn ?_; (repeat (first | intro (g : Nat) | intro (v : Value) | intro (o : Value.oneCell' _ = true) | intro (cs : List Value) | intro (hcs : _ = List.set _ _ _) | intro (zs : List _) | intro (hzs : _)))))
      (refine rn ?_; (repeat (first | intro (g : Nat) | intro (v : Value) | intro (o : Value.oneCell' _ = true) | intro (cs : List Value) | intro (hcs : _ = List.set _ _ _) | intro (zs : List _) | intro (hzs : _))))
      refine st_storeBA (xs := hv) 1 (by rfl) (by rfl) (by rfl) (by rfl) (by rfl) hR rE ?_
      (refine rn ?_; (repeat (first | intro (g : Nat) | intro (v : Value) | intro (o : Value.oneCell' _ = true) | intro (cs : List Value) | intro (hcs : _ = List.set _ _ _) | intro (zs : List _) | intro (hzs : _))))
      exact rnd_n ⟨l.length - (i + 1), _, by omega, rB, i + 1, v3, _, by omega, rfl, hst.symm, by rw [← hst]; simpa using hk2, o3, lcons rfl (lcons (vint (by omega)) rfl), rfl⟩
  · obtain rfl : i = l.length := by omega
    rw [List.take_length] at hs
    have : out = makeP l := by unfold makeP; rw [← hs]
    subst this
    (refine rn ?_; (repeat (first | intro (g : Nat) | intro (v : Value) | intro (o : Value.oneCell' _ = true) | intro (cs : List Value) | intro (hcs : _ = List.set _ _ _) | intro (zs : List _) | intro (hzs : _))))
    (first | refine fin_ret rS ?_ | refine fin_norm rS ?_)
    exact ⟨_, rB, o3, rfl⟩
end Go.Proofs.Ytcclbplccnaonaa
/- Marks as the keys of maps. No condition. -/
namespace Go.Proofs.Ytcclbplccnaonaa
open Go.RowKit
set_option linter.unusedSimpArgs false
set_option linter.unusedVariables false
set_option maxRecDepth 20000
instance : KeyT Try.prog 60 Mk where
  depth := 3
  ls := [.i .i64, .i .i64]
  small := rfl
  leaves := by kernel_rfl
  agg := by kernel_rfl
  guard := by kernel_rfl
  ok := fun _ => rfl
  inj := fun a b h => by
    obtain ⟨a1, a2⟩ := a
    obtain ⟨b1, b2⟩ := b
    simp only [Rep.cells, List.cons.injEq, Value.int.injEq, true_and, and_true] at h
    simp [h]
  check := fun w em a => check_2int (e := 3) Try.underlying60 ⟨rfl, rfl, by decide⟩ ⟨rfl, rfl, by decide⟩ (by kernel_rfl) w em a.r a.n
end Go.Proofs.Ytcclbplccnaonaa
/- What a past's clock is at most. No condition. -/
namespace Go.Proofs.Ytcclbplccnaonaa
open Go.RowKit
set_option linter.unusedSimpArgs false
set_option linter.unusedVariables false
theorem upTo_le (l : List Ev) (r b : Int) : upTo l r b ≤ b + l.length := by
  have h := upTo_spec l r b
  obtain ⟨k, hk⟩ : ∃ k : Nat, (k : Int) = upTo l r b - b := ⟨(upTo l r b - b).toNat, by have := h.1; omega⟩
  have h1 : ((List.range k).map fun (j : Nat) => (⟨r, b + 1 + j⟩ : Mk)).Nodup := by
    unfold List.Nodup
    rw [List.pairwise_map]
    refine List.nodup_range.imp fun hne he => hne ?_
    simp only [Mk.mk.injEq, true_and] at he
    omega
  have h2 := h1.length_le_of_subset (l₂ := marks l) (fun x hx => by
    obtain ⟨j, hj, rfl⟩ := List.mem_map.1 hx
    have := List.mem_range.1 hj
    exact h.2.1 _ (by omega) (by omega))
  simp [marks] at h2
  omega
theorem clockP_bd (l : List Ev) {i : Nat} (h : i < 5) : 0 ≤ (clockP l).get i ∧ (clockP l).get i ≤ l.length := by
  refine ⟨clockP_pos l h, ?_⟩
  have h1 := (clockP_upTo l h).unique (upTo_spec l i 0)
  have h2 := upTo_le l i 0
  omega
theorem clock_nil : clockP [] = Clk.zero := clockP_eq fun i hi => by
  rw [zero_get]
  exact ⟨Int.le_refl _, fun k h1 h2 => by omega, by simp [marks]⟩
end Go.Proofs.Ytcclbplccnaonaa
/- Maps of any one-word or structured values: looked up with and without 'ok', written at a key that is there or not. No condition. -/
namespace Go.Proofs.Ytcclbplccnaonaa
open Go.RowKit
set_option linter.unusedSimpArgs false
set_option linter.unusedVariables false
def mposV {κ : Type} [DecidableEq κ] (k : κ) : List (κ × Value) → Nat → Option (Nat × Value)
  | [], _ => none
  | p :: m, i => if k = p.1 then some (i, p.2) else mposV k m (i + 1)
/-- Keys, as values. -/
class KeyV (P : outParam Program) (kt : TypeId) (κ : outParam Type) [DecidableEq κ] where
  kv : κ → Value
  check : ∀ (w : World) (em : Bool) (a : κ), (Instr.checkKey em 10000 kt (kv a)).run P w = .ok () w
  stays : ∀ (w : World) (k : κ), (Instr.keyThatStays (kv k) (kv k)).run P w = .ok (kv k) w
  find : ∀ (w : World) (k : κ) (es : List MapEntry) (m : List (κ × Value)), es.map (fun e => (e.key, e.val)) = m.map (fun p => (kv p.1, p.2)) → (Instr.findKey kt (kv k) es).run P w = .ok (mposV k m 0) w
def MapV {κ : Type} (kv : κ → Value) (g : Nat) (m : List (κ × Value)) : Assn := fun h => ∃ es clock, h = Frag.one g (.map es clock) ∧ es.toList.map (fun e => (e.key, e.val)) = m.map fun p => (kv p.1, p.2)
def mput {κ : Type} [DecidableEq κ] (k : κ) (v : Value) (m : List (κ × Value)) : List (κ × Value) := match mposV k m 0 with | some q => m.set q.1 (k, v) | none => m ++ [(k, v)]
theorem run_askingV {P : Program} {kt : TypeId} {κ : Type} [Rep κ] [K : KeyT P kt κ] [DecidableEq κ] (k : κ) (w : World) : ∀ (es : List MapEntry) (m : List (κ × Value)) (i : Nat), es.map (fun e => (e.key, e.val)) = m.map (fun p => (aggV p.1, p.2)) →
    (Instr.findAsking kt (aggV k) es i).run P w = .ok (mposV k m i) w
  | [], [], i, _ => by simp [Instr.findAsking, mposV]
  | e :: es, p :: m, i, h => by
    simp only [List.map_cons, List.cons.injEq, Prod.mk.injEq] at h
    obtain ⟨⟨h1, h2⟩, h3⟩ := h
    have he := run_eqT (P := P) (t := kt) k p.1 w
    unfold Instr.findAsking
    rw [h1]
    by_cases hk : k = p.1
    · rw [decide_eq_true hk] at he
      rw [show mposV k (p :: m) i = some (i, p.2) from if_pos hk]
      simp [he, h2]
    · rw [decide_eq_false hk] at he
      rw [show mposV k (p :: m) i = mposV k m (i + 1) from if_neg hk]
      simp [he, run_askingV k w es m (i + 1) h3]
  | [], _ :: _, _, h => by simp at h
  | _ :: _, [], _, h => by simp at h
/-- Structs as keys. -/
@[reducible] def KeyV.ofT {P : Program} {kt : TypeId} {κ : Type} [Rep κ] [K : KeyT P kt κ] [DecidableEq κ] : KeyV P kt κ where
  kv := aggV
  check := fun w em a => K.check w em a
  stays := fun w k => run_stays (P := P) (kt := kt) k w
  find := fun w k es m h => by
    have ha := K.agg
    unfold aggB at ha
    cases hu : P.underlying kt with
    | none => rw [hu] at ha; cases ha
    | some d =>
      rw [hu] at ha
      match es, m, h with
      | [], [], _ => simp [Instr.findKey, run_underlying hu, Instr.findNow, mposV]
      | e :: es, p :: m, h =>
        have hr := run_askingV (P := P) (kt := kt) k w (e :: es) (p :: m) 0 h
        have hn : Instr.findNow d (aggV k) (e :: es) 0 = none := by
          cases d <;> simp at ha <;> simp [Instr.findNow, Instr.sameNow]
        simp only [Instr.findKey, Sem.run_bind, run_underlying hu, Result.andThen_ok, hn, hr]
      | [], _ :: _, h => simp at h
      | _ :: _, [], h => simp at h
theorem mposV_spec {κ : Type} [DecidableEq κ] (k : κ) : ∀ (m : List (κ × Value)) (s : Nat), (mposV k m s = none ∧ ∀ p ∈ m, p.1 ≠ k) ∨ ∃ i, ∃ h : i < m.length, (m[i]'h).1 = k ∧ mposV k m s = some (s + i, (m[i]'h).2)
  | [], s => .inl ⟨rfl, by simp⟩
  | p :: m, s => by
    by_cases hk : k = p.1
    · exact .inr ⟨0, by simp, hk.symm, if_pos hk⟩
    · rcases mposV_spec k m (s + 1) with ⟨h1, h2⟩ | ⟨i, hi, h1, h2⟩
      · refine .inl ⟨(if_neg hk).trans h1, fun x hx => ?_⟩
        rcases List.mem_cons.1 hx with rfl | hx
        · exact fun h => hk h.symm
        · exact h2 x hx
      · refine .inr ⟨i + 1, by simp; omega, by simpa using h1, (if_neg hk).trans ?_⟩
        rw [h2]
        simp; omega
section
variable {κ : Type} {kv : κ → Value} {L : List Assn} {F : Frag} {w : World}
theorem mapV_heap {i g : Nat} {m : List (κ × Value)} (hi : L[i]? = some (MapV kv g m)) (s : Sats w L F) : ∃ es clock, w.heap[g]? = some (.map es clock) ∧ es.toList.map (fun e => (e.key, e.val)) = m.map fun p => (kv p.1, p.2) := by
  obtain ⟨h, ⟨es, clock, rfl, he⟩, d, s'⟩ := Sats.pick hi s
  exact ⟨es, clock, Sats.frame_left s' g _ (Frag.one_self g _), he⟩
theorem mapV_set {i g : Nat} {m m' : List (κ × Value)} {es es' : Array MapEntry} {clock clock' : Nat} (hi : L[i]? = some (MapV kv g m)) (hg : w.heap[g]? = some (.map es clock)) (he : es'.toList.map (fun e => (e.key, e.val)) = m'.map fun p => (kv p.1, p.2)) (s : Sats w L F) :
    Sats { w with heap := w.heap.setIfInBounds g (.map es' clock') } (L.set i (MapV kv g m')) F := by
  obtain ⟨h, ⟨es0, clock0, rfl, _⟩, d, s'⟩ := Sats.pick hi s
  have hlt : g < w.heap.size := (Array.getElem?_eq_some_iff.1 hg).1
  refine Sats.rewrite (o' := .map es' clock') (List.getElem?_eq_some_iff.1 hi).1 d s' ⟨es', clock', rfl, he⟩ (fun n hn => ?_) ?_
  · show (w.heap.setIfInBounds g _)[n]? = _
    rw [Array.getElem?_setIfInBounds_ne (Ne.symm hn)]
  · show (w.heap.setIfInBounds g _)[g]? = _
    simp [hlt]
end
section
variable {P : Program} {n : Nat} {ops : Array Oper} {Q : Post} {f : Nat → Value} {L : List Assn} {rest : List Oper} {d : Nat} {ty : TypeId} {pos : String} {af : Array Edge} {gd : Option (Nat × Bool)}
theorem st_makeMapV {κ : Type} (kv : κ → Value) {t : TypeId} (hd : Nat.blt d n = true) (h : ∀ g, ExL P n ops rest Q (upd f d (.map (some g))) (MapV kv g [] :: L)) : ExL P n ops (⟨some d, .makeMap t none, ty, pos, af, none⟩ :: rest) Q f L := by
  refine ExL.eff rfl hd (R := fun v L' => ∃ g, v = .map (some g) ∧ L' = MapV kv g [] :: L) (fun F w s => ?_) ?_
  · refine ⟨_, w.alloc (.map #[] 0), _, .inl (by simp [execOp, Instr.makeMap]), Rest.alloc (Rest.refl w) _, Sats.alloc _ s (A := MapV kv w.heap.size []) ⟨#[], 0, rfl, rfl⟩, w.heap.size, rfl, rfl⟩
  · rintro v L' ⟨g, rfl, rfl⟩
    exact h g
variable {κ : Type} [DecidableEq κ] {t kt et : TypeId} [K : KeyV P kt κ]
theorem run_lookupV {i g : Nat} {m : List (κ × Value)} {k : κ} {z : Value} {w : World} {F : Frag} (ok : Bool) (ht : P.underlying t = some (.map kt et)) (hz : ((P.info? et).bind (·.zero)) = some z) (hi : L[i]? = some (MapV K.kv g m)) (s : Sats w L F) :
    (Instr.lookup t (.map (some g)) (K.kv k) ok).run P w = .ok (if ok then .tuple #[match mposV k m 0 with | some q => q.2 | none => z, .bool (mposV k m 0).isSome] else match mposV k m 0 with | some q => q.2 | none => z) w := by
  obtain ⟨es, clock, hg, he⟩ := mapV_heap hi s
  have hf := K.find w k es.toList m he
  have hc := K.check w es.isEmpty k
  have hzv : (zeroValue et).run P w = .ok z w := by
    cases hii : P.info? et with
    | none => rw [hii] at hz; cases hz
    | some inf =>
      rw [hii] at hz
      have hz : inf.zero = some z := hz
      simp [zeroValue, typeInfo, hii, hz]
  cases hp : mposV k m 0 with
  | none =>
    rw [hp] at hf
    cases ok <;> simp [Instr.lookup, run_underlying ht, MapKept.run_getObj_map hg, hc, hf, hzv]
  | some q =>
    rw [hp] at hf
    cases ok <;> simp [Instr.lookup, run_underlying ht, MapKept.run_getObj_map hg, hc, hf]
/-- m[k] -/
theorem vl_lookup1 (i : Nat) {x y : Operand} {g : Nat} {m : List (κ × Value)} {k : κ} {z : Value} (hx : evalF f x = .map (some g)) (hy : evalF f y = K.kv k) (hi : L[i]? = some (MapV K.kv g m)) (ht : P.underlying t = some (.map kt et)) (hz : ((P.info? et).bind (·.zero)) = some z) :
    Val P ⟨some d, .lookup t x y false, ty, pos, af, gd⟩ f L (match mposV k m 0 with | some q => q.2 | none => z) := fun F w s => by
  have := run_lookupV (P := P) (k := k) false ht hz hi s
  simp only [Bool.false_eq_true, if_false] at this
  simp [execOp, hx, hy, this]
/-- v, ok := m[k] -/
theorem vl_lookup2 (i : Nat) {x y : Operand} {g : Nat} {m : List (κ × Value)} {k : κ} {z : Value} (hx : evalF f x = .map (some g)) (hy : evalF f y = K.kv k) (hi : L[i]? = some (MapV K.kv g m)) (ht : P.underlying t = some (.map kt et)) (hz : ((P.info? et).bind (·.zero)) = some z) :
    Val P ⟨some d, .lookup t x y true, ty, pos, af, gd⟩ f L (.tuple #[match mposV k m 0 with | some q => q.2 | none => z, .bool (mposV k m 0).isSome]) := fun F w s => by
  have := run_lookupV (P := P) (k := k) true ht hz hi s
  simp only [if_true] at this
  simp [execOp, hx, hy, this]
theorem list_set_map {α β : Type} (φ : α → β) : ∀ (l : List α) (i : Nat) (a : α), (l.set i a).map φ = (l.map φ).set i (φ a)
  | [], _, _ => rfl
  | _ :: _, 0, _ => rfl
  | b :: l, i + 1, a => by simp [list_set_map φ l i a]
theorem map_modify (es : Array MapEntry) (i : Nat) (key v : Value) : ((es.modify i fun e => { e with key := key, val := v }).toList.map fun e => (e.key, e.val)) = (es.toList.map fun e => (e.key, e.val)).set i (key, v) := by
  apply List.ext_getElem?
  intro j
  simp only [List.getElem?_map, Array.getElem?_toList, Array.getElem?_modify, List.getElem?_set, List.length_map, Array.length_toList]
  by_cases hij : i = j
  · subst hij
    simp only [if_true]
    by_cases hl : i < es.size
    · simp [hl]
    · simp [hl]
  · simp [hij]
/-- m[k] = v -/
theorem st_mapPut (i : Nat) {kv : κ → Value} (hkv : K.kv = kv) {x y z : Operand} {g : Nat} {m : List (κ × Value)} {k : κ} {v : Value} (hx : evalF f x = .map (some g)) (hy : evalF f y = K.kv k) (hz : evalF f z = v) (hi : L[i]? = some (MapV kv g m)) (ht : P.underlying t = some (.map kt et))
    {L' : List Assn} (hL : L.set i (MapV kv g (mput k v m)) = L') (h : ExL P n ops rest Q f L') : ExL P n ops (⟨none, .mapUpdate t x y z, ty, pos, af, none⟩ :: rest) Q f L := by
  subst hL
  subst hkv
  refine ExL.eff rfl rfl (R := fun _ L2 => L2 = L.set i (MapV K.kv g (mput k v m))) (fun F w s => ?_) (fun v L2 e => by subst e; exact h)
  obtain ⟨es, clock, hg, he⟩ := mapV_heap hi s
  have hf := K.find w k es.toList m he
  have hc := K.check w false k
  rcases mposV_spec k m 0 with ⟨hp, _⟩ | ⟨j, hj, hjk, hp⟩
  · rw [hp] at hf
    have hm : mput k v m = m ++ [(k, v)] := by unfold mput; rw [hp]
    refine ⟨undef, _, _, .inr ⟨?_, rfl⟩, ?_, mapV_set (es' := es.push { key := K.kv k, val := v, born := clock }) (clock' := clock + 1) hi hg (by rw [hm]; simp [he]) s, rfl⟩
    · simp [execOp, hx, hy, hz, Instr.mapUpdate, run_underlying ht, MapKept.run_getObj_map hg, hc, hf, MapKept.run_setObj_map _ hg]
    · exact ⟨rfl, rfl, rfl⟩
  · rw [hp, Nat.zero_add] at hf
    have hm : mput k v m = m.set j (k, v) := by unfold mput; rw [hp]; simp
    have hjl : j < es.size := by
      have := congrArg List.length he
      simp at this
      omega
    have hkey : (es[j]'hjl).key = K.kv k := by
      have h2 := congrArg (fun l => l[j]?) he
      simp only [List.getElem?_map, Array.getElem?_toList] at h2
      rw [Array.getElem?_eq_getElem hjl, List.getElem?_eq_getElem hj] at h2
      simp only [Option.map_some, Option.some.injEq, Prod.mk.injEq] at h2
      rw [h2.1, hjk]
    have hst := K.stays w k
    refine ⟨undef, _, _, .inr ⟨?_, rfl⟩, ?_, mapV_set (es' := es.modify j fun e => { e with key := K.kv k, val := v }) (clock' := clock) hi hg (by rw [hm, map_modify, he, list_set_map]) s, rfl⟩
    · simp [execOp, hx, hy, hz, Instr.mapUpdate, run_underlying ht, MapKept.run_getObj_map hg, hc, hf, MapKept.run_setObj_map _ hg, hjl, hkey, hst]
    · exact ⟨rfl, rfl, rfl⟩
end
/-- A set: each key with true. -/
def setM {κ : Type} (ks : List κ) : List (κ × Value) := ks.map fun k => (k, .bool true)
theorem setM_look {κ : Type} [DecidableEq κ] (k : κ) (ks : List κ) : (match mposV k (setM ks) 0 with | some q => q.2 | none => Value.bool false) = .bool (decide (k ∈ ks)) := by
  rcases mposV_spec k (setM ks) 0 with ⟨hp, h⟩ | ⟨j, hj, hjk, hp⟩
  · rw [hp]
    rw [decide_eq_false]
    intro hk
    exact h (k, .bool true) (List.mem_map.2 ⟨k, hk, rfl⟩) rfl
  · rw [hp]
    have hj' : j < ks.length := by simpa [setM] using hj
    have : (setM ks)[j]'hj = (ks[j]'hj', .bool true) := by simp [setM]
    rw [this] at hjk ⊢
    rw [decide_eq_true]
    simp only at hjk
    rw [← hjk]
    exact List.getElem_mem _
theorem setM_put {κ : Type} [DecidableEq κ] (k : κ) (ks : List κ) : mput k (.bool true) (setM ks) = setM (if k ∈ ks then ks else ks ++ [k]) := by
  unfold mput
  rcases mposV_spec k (setM ks) 0 with ⟨hp, h⟩ | ⟨j, hj, hjk, hp⟩
  · rw [hp, if_neg]
    · simp [setM]
    · intro hk
      exact h (k, .bool true) (List.mem_map.2 ⟨k, hk, rfl⟩) rfl
  · rw [hp]
    have hj' : j < ks.length := by simpa [setM] using hj
    have he : (setM ks)[j]'hj = (ks[j]'hj', .bool true) := by simp [setM]
    rw [he] at hjk
    simp only at hjk
    rw [if_pos (by rw [← hjk]; exact List.getElem_mem _)]
    simp only [Nat.zero_add]
    have : (k, Value.bool true) = (setM ks)[j]'hj := by rw [he, hjk]
    rw [this, List.set_getElem_self]
end Go.Proofs.Ytcclbplccnaonaa
