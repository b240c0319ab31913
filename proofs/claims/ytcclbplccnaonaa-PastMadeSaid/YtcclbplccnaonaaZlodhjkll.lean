/- Several texts, one behind the other; each says in its head what it proves. No condition. -/
import Derived.Test.YtcclbplccnaonaaZfhjgcdef
import Derived.Test.YtcclbplccnaonaaZegefllce
/- What is made is a right past, in order; all is delivered in the end. No condition. -/
namespace Go.Proofs.Ytcclbplccnaonaa
open Go.RowKit
set_option linter.unusedSimpArgs false
set_option linter.unusedVariables false
/-- Right, and in order. -/
structure GoodP (w : List Ev) : Prop where
  right : RightQ w
  ord : OrdQ w
/-- What a clock has is there, with no more than it in its own. -/
def Closed (out : List Ev) (c : Clk) : Prop := (∀ j, 0 ≤ c.get j) ∧ ∀ r n, c.has r n = true → ∃ a ∈ out, a.mk_ = ⟨r, n⟩ ∧ a.c.le c = true
theorem le_join_l (a b : Clk) : a.le (a.join b) = true := (Clk.le_iff _ _).2 fun j hj => by rw [Clk.join_get _ _ _ hj]; omega
theorem le_join_r (a b : Clk) : b.le (a.join b) = true := (Clk.le_iff _ _).2 fun j hj => by rw [Clk.join_get _ _ _ hj]; omega
theorem Closed.join {out : List Ev} {a b : Clk} (ha : Closed out a) (hb : Closed out b) : Closed out (a.join b) := by
  refine ⟨fun j => ?_, fun r n hh => ?_⟩
  · rcases clk_join_get a b j with h | h <;> rw [h]
    · have := ha.1 j; omega
    · exact Int.le_refl _
  · obtain ⟨h0, h1, h2, h3⟩ := (Clk.has_iff _ _ _).1 hh
    rw [Clk.join_get _ _ _ (by omega)] at h3
    rcases Int.le_total (b.get r.toNat) (a.get r.toNat) with hab | hab
    · obtain ⟨x, hx, e, hl⟩ := ha.2 r n ((Clk.has_iff _ _ _).2 ⟨h0, h1, h2, by omega⟩)
      exact ⟨x, hx, e, le_trans_clk hl (le_join_l a b)⟩
    · obtain ⟨x, hx, e, hl⟩ := hb.2 r n ((Clk.has_iff _ _ _).2 ⟨h0, h1, h2, by omega⟩)
      exact ⟨x, hx, e, le_trans_clk hl (le_join_r a b)⟩
theorem Closed.more {out : List Ev} {c : Clk} (h : Closed out c) (x : List Ev) : Closed (out ++ x) c := ⟨h.1, fun r n hh => by
  obtain ⟨a, ha, e⟩ := h.2 r n hh
  exact ⟨a, List.mem_append_left _ ha, e⟩⟩
structure MkG (s : List Ev × List Clk) : Prop where
  good : GoodP s.1
  clo : ∀ c ∈ s.2, Closed s.1 c
  own : ∀ e ∈ s.1, e.n ≤ (s.2.getD e.r.toNat Clk.zero).get e.r.toNat
theorem getD_set_eq {l : List Clk} {i : Nat} (h : i < l.length) (v z : Clk) : (l.set i v).getD i z = v := by simp [List.getD_eq_getElem?_getD, h]
theorem getD_set_ne {l : List Clk} {i j : Nat} (h : i ≠ j) (v z : Clk) : (l.set j v).getD i z = l.getD i z := by
  rw [List.getD_eq_getElem?_getD, List.getD_eq_getElem?_getD, List.getElem?_set_ne (fun k => h k.symm)]
theorem MkG.step {m : Int} {s : List Ev × List Clk} (k : MkOk m s) (hm : 0 ≤ m ∧ m ≤ 1000000) (g : MkG s) {ch : Ch} (hc : ch.Ok) : MkG (mkStep s ch) := by
  obtain ⟨hl, he⟩ := getD_mem k.five hc.r
  obtain ⟨hl2, he2⟩ := getD_mem k.five hc.f
  have hcr := hc.r
  have h5 := k.five
  have hcl := g.clo _ (List.getElem_mem hl)
  have hcl2 := g.clo _ (List.getElem_mem hl2)
  rw [← he] at hcl
  rw [← he2] at hcl2
  have hcm := k.clk _ (List.getElem_mem hl)
  rw [← he] at hcm
  obtain ⟨out, clks⟩ := s
  simp only at hl hl2 h5 hcl hcl2 hcm
  clear he he2
  unfold mkStep
  simp only
  split
  · refine ⟨g.good, fun c hx => ?_, fun e hx => ?_⟩
    · rcases List.mem_or_eq_of_mem_set hx with hx | rfl
      · exact g.clo c hx
      · exact hcl.join hcl2
    · have h1 := g.own e hx
      have h2 := k.r e hx
      simp only at h1 h2 ⊢
      by_cases hre : e.r.toNat = (ch.r % 5).toNat
      · rw [hre] at h1 ⊢
        rw [getD_set_eq hl, Clk.join_get _ _ _ (by omega)]
        omega
      · rw [getD_set_ne hre]
        exact h1
  · obtain ⟨R, hR⟩ : ∃ R, R = ch.r % 5 := ⟨_, rfl⟩
    rw [← hR] at hl hcl hcm ⊢
    have hR5 : 0 ≤ R ∧ R < 5 := by omega
    generalize hcc : clks.getD R.toNat Clk.zero = c at hcl hcm ⊢
    have hgR := hcm R.toNat
    have hk := k.h
    have hkl := k.len
    simp only at hk hkl
    have hhb := height_bd (c := c) hk hm.1
    have hno : ∀ e ∈ out, e.r = R → e.n ≤ c.get R.toNat := fun e hx hr => by
      have := g.own e hx
      simp only at this
      rw [hr, hcc] at this
      exact this
    obtain ⟨v, hv⟩ : ∃ v : Ev, v = ⟨R, c.get R.toNat + 1, c, heightP out c, ch.ed.fit⟩ := ⟨_, rfl⟩
    rw [← hv]
    have vr : v.r = R := by rw [hv]
    have vn : v.n = c.get R.toNat + 1 := by rw [hv]
    have vc : v.c = c := by rw [hv]
    have vh : v.h = heightP out c := by rw [hv]
    have hnov : ∀ x : Clk, Closed out x → x.has v.r v.n = false := fun x hx => by
      cases hh : x.has v.r v.n
      · rfl
      · obtain ⟨a, ha, e1, _⟩ := hx.2 _ _ hh
        obtain ⟨e2, e3⟩ := mk_of e1
        have := hno a ha (by omega)
        omega
    have hold : ∀ e ∈ out, Closed out e.c := fun e hx => ⟨fun j => by
      by_cases hj : j < 5
      · exact ((g.good.right.may e hx).c j hj).1
      · have : e.c.get j = 0 := by
          match j, hj with
          | 0, h => omega
          | 1, h => omega
          | 2, h => omega
          | 3, h => omega
          | 4, h => omega
          | j + 5, _ => simp [Clk.get]
        omega, g.good.right.all e hx⟩
    have hset : c.le (c.set R.toNat (c.get R.toNat + 1)) = true := (Clk.le_iff _ _).2 fun j hj => by
      rw [Clk.get_set _ _ _ _ (by omega)]
      split
      · rename_i h; subst h; omega
      · exact Int.le_refl _
    refine ⟨⟨⟨fun e hx => ?_, ?_, fun e hx r n hh => ?_, fun e hx => ?_⟩, ?_⟩, fun x hx => ?_, fun e hx => ?_⟩
    · rcases List.mem_append.1 hx with hx | hx
      · exact g.good.right.may e hx
      · simp only [List.mem_singleton] at hx
        subst hx
        refine ⟨by omega, by omega, by rw [vh]; unfold heightP; omega, fun i hi => ?_, by rw [vc, vr, vn]; omega, by rw [hv]; exact fit_err _⟩
        rw [vc]
        have := hcm i
        omega
    · refine List.pairwise_append.2 ⟨g.good.right.dst, by simp, fun a ha b hb hab => ?_⟩
      simp only [List.mem_singleton] at hb
      subst hb
      obtain ⟨e1, e2⟩ := mk_of (a := a) (r := b.r) (n := b.n) hab
      have := hno a ha (by omega)
      omega
    · rcases List.mem_append.1 hx with hx | hx
      · obtain ⟨a, ha, e1, h2⟩ := g.good.right.all e hx r n hh
        exact ⟨a, List.mem_append_left _ ha, e1, h2⟩
      · simp only [List.mem_singleton] at hx
        subst hx
        rw [vc] at hh ⊢
        obtain ⟨a, ha, e1, h2⟩ := hcl.2 r n hh
        exact ⟨a, List.mem_append_left _ ha, e1, h2⟩
    · have hx2 : Closed out e.c ∧ HighIs out e.c e.h := by
        rcases List.mem_append.1 hx with hx | hx
        · exact ⟨hold e hx, g.good.right.high e hx⟩
        · simp only [List.mem_singleton] at hx
          subst hx
          rw [vc, vh]
          exact ⟨hcl, heightP_is out c⟩
      refine hx2.2.congr fun a hh => ⟨List.mem_append_left _, fun ha => ?_⟩
      rcases List.mem_append.1 ha with ha | ha
      · exact ha
      · simp only [List.mem_singleton] at ha
        subst ha
        rw [hnov _ hx2.1] at hh
        cases hh
    · refine g.good.ord.snoc fun r n hh => ?_
      rw [vc] at hh
      obtain ⟨a, ha, e1, _⟩ := hcl.2 r n hh
      exact mem_marks.2 ⟨a, ha, e1⟩
    · rcases List.mem_or_eq_of_mem_set hx with hx | rfl
      · exact (g.clo x hx).more _
      · refine ⟨fun j => ?_, fun r n hh => ?_⟩
        · rw [Clk.get_set _ _ _ _ (by omega)]
          split
          · omega
          · exact (hcm j).1
        · cases hch : c.has r n
          · obtain ⟨h0, h1, h2, h3⟩ := (Clk.has_iff _ _ _).1 hh
            rw [Clk.get_set _ _ _ _ (by omega)] at h3
            have hrn : r = R ∧ n = c.get R.toNat + 1 := by
              refine Classical.byContradiction fun hc2 => ?_
              have : c.has r n = true := (Clk.has_iff _ _ _).2 ⟨h0, h1, h2, by
                split at h3
                · rename_i h
                  have : r = R := by omega
                  subst this
                  omega
                · exact h3⟩
              rw [hch] at this
              cases this
            exact ⟨v, by simp, by simp only [Ev.mk_, vr, vn, hrn.1, hrn.2], by rw [vc]; exact hset⟩
          · obtain ⟨a, ha, e1, h2⟩ := hcl.2 r n hch
            exact ⟨a, List.mem_append_left _ ha, e1, le_trans_clk h2 hset⟩
    · by_cases hre : e.r.toNat = R.toNat
      · have h1 : (clks.set R.toNat (c.set R.toNat (c.get R.toNat + 1))).getD e.r.toNat Clk.zero = c.set R.toNat (c.get R.toNat + 1) := by
          rw [hre]; exact getD_set_eq hl _ _
        rw [h1, Clk.get_set _ _ _ _ (by omega), if_pos hre]
        rcases List.mem_append.1 hx with hx | hx
        · have h2 := k.r e hx
          have := hno e hx (by omega)
          omega
        · simp only [List.mem_singleton] at hx
          subst hx
          omega
      · have h1 : (clks.set R.toNat (c.set R.toNat (c.get R.toNat + 1))).getD e.r.toNat Clk.zero = clks.getD e.r.toNat Clk.zero := by
          exact getD_set_ne hre _ _
        rw [h1]
        rcases List.mem_append.1 hx with hx | hx
        · exact g.own e hx
        · simp only [List.mem_singleton] at hx
          subst hx
          rw [vr] at hre
          omega
theorem makeP_good (l : List Ch) (hl : l.length ≤ 100000) (h : ∀ c ∈ l, c.Ok) : GoodP (makeP l) := by
  have key : ∀ i, i ≤ l.length → MkG (makeS (l.take i)) := by
    intro i
    induction i with
    | zero =>
      intro _
      refine ⟨⟨RightQ.nil, OrdQ.nil⟩, fun c hc => ?_, by simp [makeS]⟩
      have : c = Clk.zero := List.eq_of_mem_replicate hc
      subst this
      refine ⟨fun j => by rw [zero_get]; exact Int.le_refl _, fun r n hh => ?_⟩
      obtain ⟨_, _, h2, h3⟩ := (Clk.has_iff _ _ _).1 hh
      rw [zero_get] at h3
      omega
    | succ i ih =>
      intro hi
      rw [makeS_take l i (by omega)]
      have hk := makeS_ok (l.take i) fun c hc => h c (List.mem_of_mem_take hc)
      exact MkG.step hk (by rw [List.length_take]; omega) (ih (by omega)) (h _ (List.getElem_mem (by omega : i < l.length)))
  have := (key l.length (Nat.le_refl _)).good
  rwa [List.take_length] at this
theorem GoodP.dlv {w : List Ev} (h : GoodP w) (k : Nat) : Dlv w (w.take k) := ⟨fun e he => List.mem_of_mem_take he, h.right.dst.sublist (List.take_sublist ..), h.ord.take k⟩
theorem fresh_of {c : Clk} {X w : List Ev} (hw : Dst w) (hX : ∀ e ∈ X, e ∈ w) {e : Ev} (he : e ∈ X) (hc : c.has e.r e.n = false) : e ∈ freshL c X := by
  have h := freshL_any c X e hc
  rw [show (X.any fun y => decide (y.mk_ = e.mk_)) = true from List.any_eq_true.2 ⟨e, he, decide_eq_true rfl⟩] at h
  obtain ⟨y, hy, hye⟩ := List.any_eq_true.1 h
  have := hw.same (hX y (freshL_mem c X y hy)) (hX e he) (of_decide_eq_true hye)
  subst this
  exact hy
/-- Whatever is there with all that is below it is delivered. -/
theorem drain_all {w log : List Ev} (hw : GoodP w) (hl : Dlv w log) {X : List Ev} (hX : ∀ e ∈ X, e ∈ w) (T : Ev → Prop) (hT : ∀ e ∈ w, T e → ∀ a ∈ w, e.c.has a.r a.n = true → T a)
    (hTX : ∀ e ∈ w, T e → e ∈ X ∨ (clockP log).has e.r e.n = true) : ∀ e ∈ w, T e → (drain (clockP log) (freshL (clockP log) X)).2.2.has e.r e.n = true := by
  have hd := fresh_dst (clockP log) X
  obtain ⟨h1, h2⟩ := fresh_dlv hw.right hl hX
  have hle := drain_le (clockP log) _ hd
  have hend := drain_end (clockP log) _ hd
  have hleft := drain_left_eq (clockP log) _ hd (freshL_has _ X)
  generalize drain (clockP log) (freshL (clockP log) X) = D at h1 h2 hle hend hleft ⊢
  intro e he hTe
  refine Classical.byContradiction fun hc => ?_
  obtain ⟨w1, x, w2, hwx, ⟨hTx, hxN⟩, hall⟩ := first_of (fun e => T e ∧ ¬ D.2.2.has e.r e.n = true) w ⟨e, he, hTe, hc⟩
  have hxw : x ∈ w := by rw [hwx]; simp
  have hxc : x.c.le D.2.2 = true := by
    rw [h2]
    refine le_clockP.2 fun r n hh => ?_
    obtain ⟨a, ha, e1⟩ := mem_marks.1 (hw.ord w1 x w2 hwx r n hh)
    obtain ⟨e2, e3⟩ := mk_of e1
    have haw : a ∈ w := by rw [hwx]; simp [ha]
    have hTa := hT x hxw hTx a haw (by rw [e2, e3]; exact hh)
    have := hall a ha
    have haN : D.2.2.has a.r a.n = true := Classical.byContradiction fun hc => this ⟨hTa, hc⟩
    rw [h2] at haN
    have := has_clockP haN
    rwa [e2, e3] at this
  have hxf : x ∈ freshL (clockP log) X := by
    rcases hTX x hxw hTx with h | h
    · refine fresh_of hw.right.dst hX h ?_
      cases hh : (clockP log).has x.r x.n
      · rfl
      · exact absurd (has_mono hle hh) hxN
    · exact absurd (has_mono hle h) hxN
  have hxl : x ∈ D.2.1 := by
    rw [hleft]
    refine List.mem_filter.2 ⟨hxf, ?_⟩
    simpa using hxN
  have hy := hw.right.may x hxw
  have hr := hy.r
  have h3 := (Clk.le_iff _ _).1 hxc x.r.toNat (by omega)
  rw [hy.own] at h3
  have hn := hy.n
  have h4 : ¬ x.n ≤ D.2.2.get x.r.toNat := fun h => hxN ((Clk.has_iff _ _ _).2 ⟨hr.1, hr.2, hn.1, h⟩)
  obtain ⟨i, hi⟩ := exists_next (c := D.2.2) (l := D.2.1) ⟨x, hxl, hr.1, hr.2, hn.1, by omega, hxc⟩
  exact hend i hi
/-- Ready, of a past. -/
theorem rdy_iff {w log : List Ev} (hw : RightQ w) (hl : Dlv w log) {e : Ev} (he : e ∈ w) (hn : e ∉ log) : e.rdy (clockP log) ↔ e.c.le (clockP log) = true := by
  constructor
  · exact fun h => h.2.2.2.2
  · intro h
    have hy := hw.may e he
    have hr := hy.r
    have h3 := (Clk.le_iff _ _).1 h e.r.toNat (by omega)
    rw [hy.own] at h3
    have h4 : ¬ e.n ≤ (clockP log).get e.r.toNat := fun h => hn ((hl.has_mem hw he).1 ((Clk.has_iff _ _ _).2 ⟨hr.1, hr.2, hy.n.1, h⟩))
    exact ⟨hr.1, hr.2, hy.n.1, by omega, h⟩
theorem not_rdy_had {c : Clk} {e : Ev} (h : c.has e.r e.n = true) : ¬ e.rdy c := fun k => by
  obtain ⟨_, _, _, h3⟩ := (Clk.has_iff _ _ _).1 h
  have := k.2.2.2.1
  omega
theorem GoodP.nth {w : List Ev} (h : GoodP w) {k : Nat} (hk : k < w.length) : (w[k]'hk).c.le (clockP (w.take k)) = true := OrdQ.iff.2 h.ord k hk
theorem GoodP.not_take {w : List Ev} (h : GoodP w) {k n : Nat} (hk : k < w.length) (hn : n ≤ k) : w[k]'hk ∉ w.take n := fun hm => by
  obtain ⟨i, hi, e⟩ := List.getElem_of_mem hm
  rw [List.length_take] at hi
  rw [List.getElem_take] at e
  have := h.right.dst.inj (show i < w.length by omega) hk (by rw [e])
  omega
theorem GoodP.clock_succ {w : List Ev} (h : GoodP w) {k : Nat} (hk : k < w.length) : clockP (w.take (k + 1)) = (clockP (w.take k)).set (w[k]'hk).r.toNat (w[k]'hk).n := by
  rw [List.take_succ_eq_append_getElem hk]
  exact ((h.dlv k).step h.right (List.getElem_mem hk) ((rdy_iff h.right (h.dlv k) (List.getElem_mem hk) (h.not_take hk (Nat.le_refl _))).2 (h.nth hk))).2
theorem GoodP.rdy {w : List Ev} (h : GoodP w) {k : Nat} (hk : k < w.length) : (w[k]'hk).rdy (clockP (w.take k)) := (rdy_iff h.right (h.dlv k) (List.getElem_mem hk) (h.not_take hk (Nat.le_refl _))).2 (h.nth hk)
theorem GoodP.pre {w : List Ev} (h : GoodP w) (k : Nat) : GoodP (w.take k) := ⟨(h.dlv k).right h.right, h.ord.take k⟩
theorem GoodP.nil : GoodP [] := ⟨RightQ.nil, OrdQ.nil⟩
/-- A list of a past's events: all of them, none twice. -/
theorem all_perm {w log : List Ev} (hw : RightQ w) (hd : Dst log) (hs : ∀ e ∈ log, e ∈ w) (ha : ∀ e ∈ w, e ∈ log) : log.Perm w := by
  have n1 : log.Nodup := hd.imp fun h e => h (by rw [e])
  have n2 : w.Nodup := hw.dst.imp fun h e => h (by rw [e])
  exact (List.perm_ext_iff_of_nodup n1 n2).2 fun a => ⟨hs a, ha a⟩
theorem perm_marks {w log : List Ev} (h : log.Perm w) (k : Mk) : k ∈ marks log ↔ k ∈ marks w := (h.map Ev.mk_).mem_iff
end Go.Proofs.Ytcclbplccnaonaa
/- A variable that is an array of things, at places that are not literal. No condition. -/
namespace Go.Proofs.Ytcclbplccnaonaa
open Go.RowKit
set_option linter.unusedSimpArgs false
set_option linter.unusedVariables false
theorem cellsOf_get1 {α : Type} [Rep α] {xs : List α} {j : Nat} (hj : j < xs.length) : ((cellsOf xs).drop (j * Rep.sz α)).take (Rep.sz α) = Rep.cells (xs[j]'hj) := by
  rw [cellsOf_drop, List.drop_eq_getElem_cons hj]
  show ((Rep.cells (xs[j]'hj)) ++ cellsOf (xs.drop (j + 1))).take (Rep.sz α) = _
  rw [← Rep.len (xs[j]'hj), List.take_left]
theorem cellsOf_setA {α : Type} [Rep α] {xs : List α} {j : Nat} (hj : j < xs.length) (a : α) : (cellsOf xs).take (j * Rep.sz α) ++ Rep.cells a ++ (cellsOf xs).drop (j * Rep.sz α + Rep.sz α) = cellsOf (xs.set j a) := by
  have e : xs.set j a = xs.take j ++ a :: xs.drop (j + 1) := List.set_eq_take_append_cons_drop .. |>.trans (by rw [if_pos hj])
  rw [e, cellsOf_append, cellsOf_take, ← Nat.succ_mul, cellsOf_drop]
  show cellsOf (xs.take j) ++ Rep.cells a ++ cellsOf (xs.drop (j + 1)) = cellsOf (xs.take j) ++ (Rep.cells a ++ cellsOf (xs.drop (j + 1)))
  rw [List.append_assoc]
section
variable {P : Program} {n : Nat} {ops : Array Oper} {Q : Post} {f : Nat → Value} {L : List Assn} {rest : List Oper} {d : Nat} {ty : TypeId} {pos : String} {af : Array Edge} {gd : Option (Nat × Bool)}
variable {α : Type} [Rep α] {xs : List α}
/-- A whole thing. -/
theorem vl_loadBA (i : Nat) {t bt : TypeId} {x : Operand} {g j sz : Nat} (hx : evalF f x = .pointer (some ⟨g, 0 + j * sz, none⟩)) (hi : L[i]? = some (Blk g bt (cellsOf xs))) (hA : aggB P t = some true) (hm : P.cellsOf t = sz) (hsz : Rep.sz α = sz) (hj : j < xs.length) :
    Val P ⟨some d, .load t x, ty, pos, af, gd⟩ f L (.agg (Rep.cells (xs[j]'hj)).toArray) := fun F w s => by
  subst hsz
  have := run_loadVarA (P := P) w (t := t) (a := ⟨g, 0 + j * Rep.sz α, none⟩) (cs := Rep.cells (xs[j]'hj)) hA (by rw [hm, Rep.len]) (by rw [Rep.len]; exact Rep.pos) (fun k u hk => by
    rw [addr_add]
    rw [← cellsOf_get1 hj] at hk
    have := take_drop_get hk
    rw [Nat.zero_add]
    exact blk_cell hi this s)
  rw [Nat.zero_add] at hx this
  simp [execOp, hx, Instr.loadAt, Instr.sureAddr, this]
/-- A cell of a thing. -/
theorem vl_loadB1 (i : Nat) {t bt : TypeId} {x : Operand} {g j o sz : Nat} {v : Value} (hx : evalF f x = .pointer (some ⟨g, 0 + j * sz + o * 1, none⟩)) (hi : L[i]? = some (Blk g bt (cellsOf xs))) (hA : aggB P t = some false) (hsz : Rep.sz α = sz) (hj : j < xs.length) (ho : o < sz) (hv : (Rep.cells (xs[j]'hj))[o]? = some v) :
    Val P ⟨some d, .load t x, ty, pos, af, gd⟩ f L v := fun F w s => by
  subst hsz
  have h := cellsOf_get hj ho
  rw [hv] at h
  rw [Nat.zero_add, Nat.mul_one] at hx
  have := run_loadVar1 (P := P) w hA (blk_cell hi h s)
  simp [execOp, hx, Instr.loadAt, Instr.sureAddr, this]
theorem st_storeBA (i : Nat) {t bt : TypeId} {x y : Operand} {g j sz : Nat} {a : α} {L' : List Assn} (hx : evalF f x = .pointer (some ⟨g, 0 + j * sz, none⟩)) (hi : L[i]? = some (Blk g bt (cellsOf xs))) (hy : evalF f y = .agg (Rep.cells a).toArray) (hm : P.cellsOf t = sz) (hsz : Rep.sz α = sz) (hj : j < xs.length)
    (hL : L.set i (Blk g bt (cellsOf (xs.set j a))) = L') (h : ExL P n ops rest Q f L') : ExL P n ops (⟨none, .store t x y, ty, pos, af, none⟩ :: rest) Q f L := by
  subst hsz
  refine st_storeA i hx hy (Rep.one a) hi (by rw [hm, Rep.len]) (by rw [Rep.len]; exact Nat.ble_eq_true_of_le (show 0 + 1 ≤ _ from Rep.pos)) (by
    rw [Rep.len, cellsOf_len, Nat.zero_add, ← Nat.succ_mul]
    exact Nat.ble_eq_true_of_le (Nat.mul_le_mul_right _ (by omega))) ?_ h
  rw [Rep.len, Nat.zero_add, cellsOf_setA hj a, hL]
theorem st_storeB1 (i : Nat) {t bt : TypeId} {x y : Operand} {g j o sz : Nat} {v : Value} {a : α} {L' : List Assn} (hx : evalF f x = .pointer (some ⟨g, 0 + j * sz + o * 1, none⟩)) (hi : L[i]? = some (Blk g bt (cellsOf xs))) (hy : evalF f y = v) (h1 : v.oneCell' = true) (hm : P.cellsOf t = 1) (hsz : Rep.sz α = sz) (hj : j < xs.length) (ho : o < sz)
    (ha : Rep.cells a = (Rep.cells (xs[j]'hj)).set o v) (hL : L.set i (Blk g bt (cellsOf (xs.set j a))) = L') (h : ExL P n ops rest Q f L') : ExL P n ops (⟨none, .store t x y, ty, pos, af, none⟩ :: rest) Q f L := by
  subst hsz
  have e := cellsOf_set (u := v) hj ho ha
  refine st_store1 i hx hy h1 hi hm (Nat.ble_eq_true_of_le (by
    rw [cellsOf_len, Nat.zero_add, Nat.mul_one]
    have : (j + 1) * Rep.sz α ≤ xs.length * Rep.sz α := Nat.mul_le_mul_right _ (by omega)
    rw [Nat.succ_mul] at this
    omega)) ?_ h
  rw [Nat.zero_add, Nat.mul_one, e, hL]
end
end Go.Proofs.Ytcclbplccnaonaa
/- kithref03.Join, kithref08.Height, walked. No condition. -/
namespace Go.Proofs.Ytcclbplccnaonaa
open Go.RowKit
set_option linter.unusedSimpArgs false
set_option linter.unusedVariables false
set_option maxRecDepth 20000 attribute [local irreducible] Ex ExL Fn thn inb rnd fin meet Tab Mix mxEnd Val Sats RdT Rd RowT Row Blk Sub Fac ResV RVal Evs subs subs3 Hid Capd
set_option maxHeartbeats 1000000 in
theorem rjoin_F (x y : Clk) (M : List Assn) : Fn Try.prog 28 #[x.val, y.val] M fun v L' => v = .agg (Rep.cells (x.join y)).toArray ∧ L' = M := by
  refine Fn.of_ex Try.func28 rfl Try.ntmps28 rfl ?_
  (repeat' (first | refine ExL.val rJ rJ rJ rV ?_ | (first | refine Ex.seq ?_ | refine Ex.region ?_ | refine ExL.nil ?_ | refine thn_n ?_ | refine Ex.cond_t rJ ?_ | refine Ex.cond_f rJ ?_ | refine Ex.skip ?_ | refine Ex.block ?_ | refine Ex.exit ?_ | refine Ex.ret ?_ | refine thn_exit ?_ | refine thn_ret ?_ | refine inb_n ?_ | refine inb_hit rJ ?_ | refine inb_miss rJ ?_ | refine inb_ret ?_ | refine rnd_exit ?_ | refine rnd_ret ?_ | refine meet_ret ?_ | refine meet_exit ?_) | (apply exlGuard; first | refine ExL.gskip rJ rJ rJ rJ rJ rJ ?_ | refine ExL.gtake rJ rJ rJ rJ ?_ | refine ExL.gskipU rJ rJ rJ rJ ?_ | (refine ExL.gsplit rJ rJ rJ (fun h => ?_) (fun h => ?_) <;> try (exfalso; omega))) | (first | refine st_new_ rJ rE (fun g => ?_) | refine st_boxA rJ rJ (fun g => ?_) | refine st_box1 rJ rE rN (fun g => ?_) | (apply exlStore; first | refine st_store1_ _ rJ rK rE rN rJ rJ rE rE ?_ | refine st_storeW_ _ rJ rK rJ rC rJ rJ rJ rE ?_ | refine st_storeR _ rJ rK rJ rE rJ rJ rE ?_ | refine st_storeA_ _ rJ rK rJ rC rJ rJ rJ rE rE ?_ | refine st_storeB _ rJ rJ rO rO rK rJ rO ?_ | refine st_storeG _ rJ rK rE rN rJ rO (fun cs hcs => ?_)) | refine st_slice0 rJ rJ rJ rJ (fun g => ?_) | refine st_slice1T rJ rJ rJ rJ (fun g => ?_) | refine st_makeT rJ rJ rJ rJ rE rJ rO rO (fun v o => ?_) | (apply exlCopy; first | refine st_copyW _ rJ rE rK rE rD rJ rE rJ (fun zs hzs => ?_) | refine st_copyS _ rJ rJ rK rE rD rJ rE rJ rO rO (fun zs hzs => ?_)) | refine st_sliceB rJ rJ rJ rJ rJ rJ rJ rL rE rE rJ (fun g => ?_) | refine st_slice1I rJ rJ rJ rJ rJ rJ (fun g => ?_) | refine st_slice1B rJ rJ rJ rJ rJ rJ rO rO (fun g => ?_) | refine st_slice1S rJ rJ rJ rJ rJ rJ (fun g => ?_) | refine st_slice2B rJ rJ rJ rJ rJ rJ rJ rO rO rO rO (fun g => ?_) | (apply exlConv; first | refine st_bytes rJ rJ rJ rJ rJ rO (fun v o => ?_) | refine st_mark _ rJ rJ rK rJ rJ rJ ?_) | refine st_clear _ (0 : UInt8) rJ rK rJ rJ rJ rJ rJ rO ?_ | refine st_clearT _ rJ rK rO rJ rJ rO rE ?_ | (apply exlAppend; first | refine st_app0 rJ rJ rE rD rJ rE rJ rE rJ rJ rJ rO (fun v o => ?_) | refine st_app _ rJ rE rK rE rD rJ rE rJ rE rJ rJ rJ rO (fun v o => ?_) | refine st_shift _ rJ rJ rJ rK rO rJ rJ rJ rO rO rE ?_)) | (refine Ex.cond_d rJ (fun h => ?_) (fun h => ?_) <;> try (exfalso; omega))))
  revert g
  intro g5
  revert g
  intro g4
  revert g
  intro g3
  revert g
  intro g2
  refine Ex.loop [6] (fun m vs L' => ∃ (i : Nat) (o : Clk), i ≤ 5 ∧ m = 5 - i ∧ vs = [.int .i64 i] ∧ (∀ j, j < i → o.get j = max (x.get j) (y.get j)) ∧ L' = Blk g5 29 (Rep.cells o) :: Blk g4 29 (Rep.cells Clk.zero) :: Blk g3 29 (Rep.cells y) :: Blk g2 29 (Rep.cells x) :: M) 5 ⟨0, Clk.zero, by omega, rfl, rfl, fun j hj => by omega, rfl⟩ ?_
  rintro m vs g1 L' ⟨i, o, hi, rfl, rfl, hall, rfl⟩
  refine Ex.keep [2, 3, 4, 5, 6] rG (fun gk => ?_)
  by_cases hlt : i < 5
  · have e1 := Clk.getD_eq x (i : Int).toNat
    have e2 := Clk.getD_eq y (i : Int).toNat
    rw [show x.get (i : Int).toNat = x.get i from rfl] at e1
    rw [show y.get (i : Int).toNat = y.get i from rfl] at e2
    have hcl : (Rep.cells o).length = 5 := rfl
    (repeat' (first | refine ExL.val rJ rJ rJ rV ?_ | (first | refine Ex.seq ?_ | refine Ex.region ?_ | refine ExL.nil ?_ | refine thn_n ?_ | refine Ex.cond_t rJ ?_ | refine Ex.cond_f rJ ?_ | refine Ex.skip ?_ | refine Ex.block ?_ | refine Ex.exit ?_ | refine Ex.ret ?_ | refine thn_exit ?_ | refine thn_ret ?_ | refine inb_n ?_ | refine inb_hit rJ ?_ | refine inb_miss rJ ?_ | refine inb_ret ?_ | refine rnd_exit ?_ | refine rnd_ret ?_ | refine meet_ret ?_ | refine meet_exit ?_) | (apply exlGuard; first | refine ExL.gskip rJ rJ rJ rJ rJ rJ ?_ | refine ExL.gtake rJ rJ rJ rJ ?_ | refine ExL.gskipU rJ rJ rJ rJ ?_ | (refine ExL.gsplit rJ rJ rJ (fun h => ?_) (fun h => ?_) <;> try (exfalso; omega))) | (first | refine st_new_ rJ rE (fun g => ?_) | refine st_boxA rJ rJ (fun g => ?_) | refine st_box1 rJ rE rN (fun g => ?_) | (apply exlStore; first | refine st_store1_ _ rJ rK rE rN rJ rJ rE rE ?_ | refine st_storeW_ _ rJ rK rJ rC rJ rJ rJ rE ?_ | refine st_storeR _ rJ rK rJ rE rJ rJ rE ?_ | refine st_storeA_ _ rJ rK rJ rC rJ rJ rJ rE rE ?_ | refine st_storeB _ rJ rJ rO rO rK rJ rO ?_ | refine st_storeG _ rJ rK rE rN rJ rO (fun cs hcs => ?_)) | refine st_slice0 rJ rJ rJ rJ (fun g => ?_) | refine st_slice1T rJ rJ rJ rJ (fun g => ?_) | refine st_makeT rJ rJ rJ rJ rE rJ rO rO (fun v o => ?_) | (apply exlCopy; first | refine st_copyW _ rJ rE rK rE rD rJ rE rJ (fun zs hzs => ?_) | refine st_copyS _ rJ rJ rK rE rD rJ rE rJ rO rO (fun zs hzs => ?_)) | refine st_sliceB rJ rJ rJ rJ rJ rJ rJ rL rE rE rJ (fun g => ?_) | refine st_slice1I rJ rJ rJ rJ rJ rJ (fun g => ?_) | refine st_slice1B rJ rJ rJ rJ rJ rJ rO rO (fun g => ?_) | refine st_slice1S rJ rJ rJ rJ rJ rJ (fun g => ?_) | refine st_slice2B rJ rJ rJ rJ rJ rJ rJ rO rO rO rO (fun g => ?_) | (apply exlConv; first | refine st_bytes rJ rJ rJ rJ rJ rO (fun v o => ?_) | refine st_mark _ rJ rJ rK rJ rJ rJ ?_) | refine st_clear _ (0 : UInt8) rJ rK rJ rJ rJ rJ rJ rO ?_ | refine st_clearT _ rJ rK rO rJ rJ rO rE ?_ | (apply exlAppend; first | refine st_app0 rJ rJ rE rD rJ rE rJ rE rJ rJ rJ rO (fun v o => ?_) | refine st_app _ rJ rE rK rE rD rJ rE rJ rE rJ rJ rJ rO (fun v o => ?_) | refine st_shift _ rJ rJ rJ rK rO rJ rJ rJ rO rO rE ?_)) | (refine Ex.cond_d rJ (fun h => ?_) (fun h => ?_) <;> try (exfalso; omega))))
    (refine Ex.mixA 8 _ rfl (by kernel_rfl) (Fac.refl _) ?_; (repeat' (first | refine mx_val rJ rJ rJ rV ?_ | refine mx_nil ?_ | (first | refine mx_gskip rJ rJ rJ rJ ?_ | refine mx_gtake rJ rJ rJ ?_ | refine mx_gskipU rJ rJ rJ ?_) | (first | refine mx_slice1T rJ rJ rJ rJ (fun g => ?_) | refine mx_slice1I rJ rJ rJ rJ rJ rJ (fun g => ?_) | refine mx_slice1B rJ rJ rJ rJ rJ rJ rO rO (fun g => ?_) | refine mx_slice1S rJ rJ rJ rJ rJ rJ (fun g => ?_) | refine mx_slice2B rJ rJ rJ rJ rJ rJ rJ rO rO rO rO (fun g => ?_) | refine mx_alloc rJ rE (fun g => ?_) | refine mx_boxA rJ rJ (fun g => ?_) | refine mx_slice0 rJ rJ rJ rJ (fun g => ?_)) | (refine mx_gsplit rJ rJ rJ (fun h => ?_) (fun h => ?_) <;> try (exfalso; omega)) | (refine mx_act rJ rJ rJ ?_; (first | (apply exlCopy; first | refine st_copyW _ rJ rE rK rE rD rJ rE rJ (fun zs hzs => ?_) | refine st_copyS _ rJ rJ rK rE rD rJ rE rJ rO rO (fun zs hzs => ?_)) | (apply exlAppend; first | refine st_app0 rJ rJ rE rD rJ rE rJ rE rJ rJ rJ rO (fun v o => ?_) | refine st_app _ rJ rE rK rE rD rJ rE rJ rE rJ rJ rJ rO (fun v o => ?_) | refine st_shift _ rJ rJ rJ rK rO rJ rJ rJ rO rO rE ?_)); refine ExL.nil ?_; refine mxEnd_n rF ?_))))
    (repeat' (first | refine ExL.val rJ rJ rJ rV ?_ | (first | refine Ex.seq ?_ | refine Ex.region ?_ | refine ExL.nil ?_ | refine thn_n ?_ | refine Ex.cond_t rJ ?_ | refine Ex.cond_f rJ ?_ | refine Ex.skip ?_ | refine Ex.block ?_ | refine Ex.exit ?_ | refine Ex.ret ?_ | refine thn_exit ?_ | refine thn_ret ?_ | refine inb_n ?_ | refine inb_hit rJ ?_ | refine inb_miss rJ ?_ | refine inb_ret ?_ | refine rnd_exit ?_ | refine rnd_ret ?_ | refine meet_ret ?_ | refine meet_exit ?_) | (apply exlGuard; first | refine ExL.gskip rJ rJ rJ rJ rJ rJ ?_ | refine ExL.gtake rJ rJ rJ rJ ?_ | refine ExL.gskipU rJ rJ rJ rJ ?_ | (refine ExL.gsplit rJ rJ rJ (fun h => ?_) (fun h => ?_) <;> try (exfalso; omega))) | (first | refine st_new_ rJ rE (fun g => ?_) | refine st_boxA rJ rJ (fun g => ?_) | refine st_box1 rJ rE rN (fun g => ?_) | (apply exlStore; first | refine st_store1_ _ rJ rK rE rN rJ rJ rE rE ?_ | refine st_storeW_ _ rJ rK rJ rC rJ rJ rJ rE ?_ | refine st_storeR _ rJ rK rJ rE rJ rJ rE ?_ | refine st_storeA_ _ rJ rK rJ rC rJ rJ rJ rE rE ?_ | refine st_storeB _ rJ rJ rO rO rK rJ rO ?_ | refine st_storeG _ rJ rK rE rN rJ rO (fun cs hcs => ?_)) | refine st_slice0 rJ rJ rJ rJ (fun g => ?_) | refine st_slice1T rJ rJ rJ rJ (fun g => ?_) | refine st_makeT rJ rJ rJ rJ rE rJ rO rO (fun v o => ?_) | (apply exlCopy; first | refine st_copyW _ rJ rE rK rE rD rJ rE rJ (fun zs hzs => ?_) | refine st_copyS _ rJ rJ rK rE rD rJ rE rJ rO rO (fun zs hzs => ?_)) | refine st_sliceB rJ rJ rJ rJ rJ rJ rJ rL rE rE rJ (fun g => ?_) | refine st_slice1I rJ rJ rJ rJ rJ rJ (fun g => ?_) | refine st_slice1B rJ rJ rJ rJ rJ rJ rO rO (fun g => ?_) | refine st_slice1S rJ rJ rJ rJ rJ rJ (fun g => ?_) | refine st_slice2B rJ rJ rJ rJ rJ rJ rJ rO rO rO rO (fun g => ?_) | (apply exlConv; first | refine st_bytes rJ rJ rJ rJ rJ rO (fun v o => ?_) | refine st_mark _ rJ rJ rK rJ rJ rJ ?_) | refine st_clear _ (0 : UInt8) rJ rK rJ rJ rJ rJ rJ rO ?_ | refine st_clearT _ rJ rK rO rJ rJ rO rE ?_ | (apply exlAppend; first | refine st_app0 rJ rJ rE rD rJ rE rJ rE rJ rJ rJ rO (fun v o => ?_) | refine st_app _ rJ rE rK rE rD rJ rE rJ rE rJ rJ rJ rO (fun v o => ?_) | refine st_shift _ rJ rJ rJ rK rO rJ rJ rJ rO rO rE ?_)) | (refine Ex.cond_d rJ (fun h => ?_) (fun h => ?_) <;> try (exfalso; omega))))
    rw [show (0 + (i : Int).toNat * 1) = i by omega, Clk.cells_set o i hlt, e1, e2] at hcs
    subst hcs
    exact rnd_n ⟨5 - (i + 1), Blk g5 29 (Rep.cells (o.set i (max (x.get i) (y.get i)))) :: Blk g4 29 (Rep.cells Clk.zero) :: Blk g3 29 (Rep.cells y) :: Blk g2 29 (Rep.cells x) :: M, by omega, rB, i + 1, _, by omega, by omega, lcons (vint (by omega)) rfl, (fun j hj => by
      rw [Clk.get_set _ _ _ _ hlt]
      split
      · rename_i h; rw [h]
      · exact hall j (by omega)), rfl⟩
  · have ho : o = x.join y := Clk.ext_get fun j hj => by rw [Clk.join_get _ _ _ hj]; exact hall j (by omega)
    subst ho
    (repeat' (first | refine ExL.val rJ rJ rJ rV ?_ | (first | refine Ex.seq ?_ | refine Ex.region ?_ | refine ExL.nil ?_ | refine thn_n ?_ | refine Ex.cond_t rJ ?_ | refine Ex.cond_f rJ ?_ | refine Ex.skip ?_ | refine Ex.block ?_ | refine Ex.exit ?_ | refine Ex.ret ?_ | refine thn_exit ?_ | refine thn_ret ?_ | refine inb_n ?_ | refine inb_hit rJ ?_ | refine inb_miss rJ ?_ | refine inb_ret ?_ | refine rnd_exit ?_ | refine rnd_ret ?_ | refine meet_ret ?_ | refine meet_exit ?_) | (apply exlGuard; first | refine ExL.gskip rJ rJ rJ rJ rJ rJ ?_ | refine ExL.gtake rJ rJ rJ rJ ?_ | refine ExL.gskipU rJ rJ rJ rJ ?_ | (refine ExL.gsplit rJ rJ rJ (fun h => ?_) (fun h => ?_) <;> try (exfalso; omega))) | (first | refine st_new_ rJ rE (fun g => ?_) | refine st_boxA rJ rJ (fun g => ?_) | refine st_box1 rJ rE rN (fun g => ?_) | (apply exlStore; first | refine st_store1_ _ rJ rK rE rN rJ rJ rE rE ?_ | refine st_storeW_ _ rJ rK rJ rC rJ rJ rJ rE ?_ | refine st_storeR _ rJ rK rJ rE rJ rJ rE ?_ | refine st_storeA_ _ rJ rK rJ rC rJ rJ rJ rE rE ?_ | refine st_storeB _ rJ rJ rO rO rK rJ rO ?_ | refine st_storeG _ rJ rK rE rN rJ rO (fun cs hcs => ?_)) | refine st_slice0 rJ rJ rJ rJ (fun g => ?_) | refine st_slice1T rJ rJ rJ rJ (fun g => ?_) | refine st_makeT rJ rJ rJ rJ rE rJ rO rO (fun v o => ?_) | (apply exlCopy; first | refine st_copyW _ rJ rE rK rE rD rJ rE rJ (fun zs hzs => ?_) | refine st_copyS _ rJ rJ rK rE rD rJ rE rJ rO rO (fun zs hzs => ?_)) | refine st_sliceB rJ rJ rJ rJ rJ rJ rJ rL rE rE rJ (fun g => ?_) | refine st_slice1I rJ rJ rJ rJ rJ rJ (fun g => ?_) | refine st_slice1B rJ rJ rJ rJ rJ rJ rO rO (fun g => ?_) | refine st_slice1S rJ rJ rJ rJ rJ rJ (fun g => ?_) | refine st_slice2B rJ rJ rJ rJ rJ rJ rJ rO rO rO rO (fun g => ?_) | (apply exlConv; first | refine st_bytes rJ rJ rJ rJ rJ rO (fun v o => ?_) | refine st_mark _ rJ rJ rK rJ rJ rJ ?_) | refine st_clear _ (0 : UInt8) rJ rK rJ rJ rJ rJ rJ rO ?_ | refine st_clearT _ rJ rK rO rJ rJ rO rE ?_ | (apply exlAppend; first | refine st_app0 rJ rJ rE rD rJ rE rJ rE rJ rJ rJ rO (fun v o => ?_) | refine st_app _ rJ rE rK rE rD rJ rE rJ rE rJ rJ rJ rO (fun v o => ?_) | refine st_shift _ rJ rJ rJ rK rO rJ rJ rJ rO rO rE ?_)) | (refine Ex.cond_d rJ (fun h => ?_) (fun h => ?_) <;> try (exfalso; omega))))
    (first | refine fin_ret rS ?_ | refine fin_norm rS ?_)
    exact ⟨_, rB, rfl, rfl⟩
set_option maxHeartbeats 1000000 in
theorem height_F (v0 : Value) (out : List Ev) (c : Clk) (M : List Assn) (hr : RdT M v0 out) (hl : out.length ≤ 1000000) (hh : ∀ e ∈ out, 1 ≤ e.h ∧ e.h ≤ 1000000) : Fn Try.prog 24 #[v0, c.val] M fun v L' => v = .int .i64 (heightP out c) ∧ L' = M := by
  refine Fn.of_ex Try.func24 rfl Try.ntmps24 rfl ?_
  (repeat' (first | refine ExL.val rJ rJ rJ rV ?_ | (first | refine Ex.seq ?_ | refine Ex.region ?_ | refine ExL.nil ?_ | refine thn_n ?_ | refine Ex.cond_t rJ ?_ | refine Ex.cond_f rJ ?_ | refine Ex.skip ?_ | refine Ex.block ?_ | refine Ex.exit ?_ | refine Ex.ret ?_ | refine thn_exit ?_ | refine thn_ret ?_ | refine inb_n ?_ | refine inb_hit rJ ?_ | refine inb_miss rJ ?_ | refine inb_ret ?_ | refine rnd_exit ?_ | refine rnd_ret ?_ | refine meet_ret ?_ | refine meet_exit ?_) | (apply exlGuard; first | refine ExL.gskip rJ rJ rJ rJ rJ rJ ?_ | refine ExL.gtake rJ rJ rJ rJ ?_ | refine ExL.gskipU rJ rJ rJ rJ ?_ | (refine ExL.gsplit rJ rJ rJ (fun h => ?_) (fun h => ?_) <;> try (exfalso; omega))) | (first | refine st_new_ rJ rE (fun g => ?_) | refine st_boxA rJ rJ (fun g => ?_) | refine st_box1 rJ rE rN (fun g => ?_) | (apply exlStore; first | refine st_store1_ _ rJ rK rE rN rJ rJ rE rE ?_ | refine st_storeW_ _ rJ rK rJ rC rJ rJ rJ rE ?_ | refine st_storeR _ rJ rK rJ rE rJ rJ rE ?_ | refine st_storeA_ _ rJ rK rJ rC rJ rJ rJ rE rE ?_ | refine st_storeB _ rJ rJ rO rO rK rJ rO ?_ | refine st_storeG _ rJ rK rE rN rJ rO (fun cs hcs => ?_)) | refine st_slice0 rJ rJ rJ rJ (fun g => ?_) | refine st_slice1T rJ rJ rJ rJ (fun g => ?_) | refine st_makeT rJ rJ rJ rJ rE rJ rO rO (fun v o => ?_) | (apply exlCopy; first | refine st_copyW _ rJ rE rK rE rD rJ rE rJ (fun zs hzs => ?_) | refine st_copyS _ rJ rJ rK rE rD rJ rE rJ rO rO (fun zs hzs => ?_)) | refine st_sliceB rJ rJ rJ rJ rJ rJ rJ rL rE rE rJ (fun g => ?_) | refine st_slice1I rJ rJ rJ rJ rJ rJ (fun g => ?_) | refine st_slice1B rJ rJ rJ rJ rJ rJ rO rO (fun g => ?_) | refine st_slice1S rJ rJ rJ rJ rJ rJ (fun g => ?_) | refine st_slice2B rJ rJ rJ rJ rJ rJ rJ rO rO rO rO (fun g => ?_) | (apply exlConv; first | refine st_bytes rJ rJ rJ rJ rJ rO (fun v o => ?_) | refine st_mark _ rJ rJ rK rJ rJ rJ ?_) | refine st_clear _ (0 : UInt8) rJ rK rJ rJ rJ rJ rJ rO ?_ | refine st_clearT _ rJ rK rO rJ rJ rO rE ?_ | (apply exlAppend; first | refine st_app0 rJ rJ rE rD rJ rE rJ rE rJ rJ rJ rO (fun v o => ?_) | refine st_app _ rJ rE rK rE rD rJ rE rJ rE rJ rJ rJ rO (fun v o => ?_) | refine st_shift _ rJ rJ rJ rK rO rJ rJ rJ rO rO rE ?_)) | (refine Ex.cond_d rJ (fun h => ?_) (fun h => ?_) <;> try (exfalso; omega))))
  refine Ex.loopS [5, 6, 7] (fun m vs => ∃ (i : Nat), i ≤ out.length ∧ m = out.length - i ∧ vs = [.int .i64 ((out.take i).foldl (heightS c) (0, false)).1, .bool ((out.take i).foldl (heightS c) (0, false)).2, .int .i64 i]) out.length ⟨0, by omega, by omega, rfl⟩ ?_
  rintro m vs g1 ⟨i, hi, rfl, rfl⟩
  refine Ex.keep [0, 3, 5, 6, 7] rG (fun gk => ?_)
  by_cases hlt : i < out.length
  · have hst : (out.take (i + 1)).foldl (heightS c) (0, false) = heightS c ((out.take i).foldl (heightS c) (0, false)) (out[i]'hlt) := by
      rw [List.take_succ_eq_append_getElem hlt, List.foldl_append]; rfl
    have hnx : ∀ X : Int × Bool, (out.take (i + 1)).foldl (heightS c) (0, false) = X → ∃ (j : Nat), j ≤ out.length ∧ out.length - (i + 1) = out.length - j ∧ [Value.int .i64 X.1, .bool X.2, .int .i64 (i + 1)] = [.int .i64 ((out.take j).foldl (heightS c) (0, false)).1, .bool ((out.take j).foldl (heightS c) (0, false)).2, .int .i64 j] := fun X hX => ⟨i + 1, by omega, rfl, by rw [hX]; rfl⟩
    generalize (out.take i).foldl (heightS c) (0, false) = s at hst ⊢
    obtain ⟨h, a⟩ := s
    unfold heightS at hst
    simp only at hst
    (repeat' (first | refine ExL.val rJ rJ rJ rV ?_ | (first | refine Ex.seq ?_ | refine Ex.region ?_ | refine ExL.nil ?_ | refine thn_n ?_ | refine Ex.cond_t rJ ?_ | refine Ex.cond_f rJ ?_ | refine Ex.skip ?_ | refine Ex.block ?_ | refine Ex.exit ?_ | refine Ex.ret ?_ | refine thn_exit ?_ | refine thn_ret ?_ | refine inb_n ?_ | refine inb_hit rJ ?_ | refine inb_miss rJ ?_ | refine inb_ret ?_ | refine rnd_exit ?_ | refine rnd_ret ?_ | refine meet_ret ?_ | refine meet_exit ?_) | (apply exlGuard; first | refine ExL.gskip rJ rJ rJ rJ rJ rJ ?_ | refine ExL.gtake rJ rJ rJ rJ ?_ | refine ExL.gskipU rJ rJ rJ rJ ?_ | (refine ExL.gsplit rJ rJ rJ (fun h => ?_) (fun h => ?_) <;> try (exfalso; omega))) | (first | refine st_new_ rJ rE (fun g => ?_) | refine st_boxA rJ rJ (fun g => ?_) | refine st_box1 rJ rE rN (fun g => ?_) | (apply exlStore; first | refine st_store1_ _ rJ rK rE rN rJ rJ rE rE ?_ | refine st_storeW_ _ rJ rK rJ rC rJ rJ rJ rE ?_ | refine st_storeR _ rJ rK rJ rE rJ rJ rE ?_ | refine st_storeA_ _ rJ rK rJ rC rJ rJ rJ rE rE ?_ | refine st_storeB _ rJ rJ rO rO rK rJ rO ?_ | refine st_storeG _ rJ rK rE rN rJ rO (fun cs hcs => ?_)) | refine st_slice0 rJ rJ rJ rJ (fun g => ?_) | refine st_slice1T rJ rJ rJ rJ (fun g => ?_) | refine st_makeT rJ rJ rJ rJ rE rJ rO rO (fun v o => ?_) | (apply exlCopy; first | refine st_copyW _ rJ rE rK rE rD rJ rE rJ (fun zs hzs => ?_) | refine st_copyS _ rJ rJ rK rE rD rJ rE rJ rO rO (fun zs hzs => ?_)) | refine st_sliceB rJ rJ rJ rJ rJ rJ rJ rL rE rE rJ (fun g => ?_) | refine st_slice1I rJ rJ rJ rJ rJ rJ (fun g => ?_) | refine st_slice1B rJ rJ rJ rJ rJ rJ rO rO (fun g => ?_) | refine st_slice1S rJ rJ rJ rJ rJ rJ (fun g => ?_) | refine st_slice2B rJ rJ rJ rJ rJ rJ rJ rO rO rO rO (fun g => ?_) | (apply exlConv; first | refine st_bytes rJ rJ rJ rJ rJ rO (fun v o => ?_) | refine st_mark _ rJ rJ rK rJ rJ rJ ?_) | refine st_clear _ (0 : UInt8) rJ rK rJ rJ rJ rJ rJ rO ?_ | refine st_clearT _ rJ rK rO rJ rJ rO rE ?_ | (apply exlAppend; first | refine st_app0 rJ rJ rE rD rJ rE rJ rE rJ rJ rJ rO (fun v o => ?_) | refine st_app _ rJ rE rK rE rD rJ rE rJ rE rJ rJ rJ rO (fun v o => ?_) | refine st_shift _ rJ rJ rJ rK rO rJ rJ rJ rO rO rE ?_)) | (refine Ex.cond_d rJ (fun h => ?_) (fun h => ?_) <;> try (exfalso; omega))))
    (refine Ex.mixA 12 _ rfl (by kernel_rfl) (Fac.refl _) ?_; (repeat' (first | refine mx_val rJ rJ rJ rV ?_ | refine mx_nil ?_ | (first | refine mx_gskip rJ rJ rJ rJ ?_ | refine mx_gtake rJ rJ rJ ?_ | refine mx_gskipU rJ rJ rJ ?_) | (first | refine mx_slice1T rJ rJ rJ rJ (fun g => ?_) | refine mx_slice1I rJ rJ rJ rJ rJ rJ (fun g => ?_) | refine mx_slice1B rJ rJ rJ rJ rJ rJ rO rO (fun g => ?_) | refine mx_slice1S rJ rJ rJ rJ rJ rJ (fun g => ?_) | refine mx_slice2B rJ rJ rJ rJ rJ rJ rJ rO rO rO rO (fun g => ?_) | refine mx_alloc rJ rE (fun g => ?_) | refine mx_boxA rJ rJ (fun g => ?_) | refine mx_slice0 rJ rJ rJ rJ (fun g => ?_)) | (refine mx_gsplit rJ rJ rJ (fun h => ?_) (fun h => ?_) <;> try (exfalso; omega)) | (refine mx_act rJ rJ rJ ?_; (first | (apply exlCopy; first | refine st_copyW _ rJ rE rK rE rD rJ rE rJ (fun zs hzs => ?_) | refine st_copyS _ rJ rJ rK rE rD rJ rE rJ rO rO (fun zs hzs => ?_)) | (apply exlAppend; first | refine st_app0 rJ rJ rE rD rJ rE rJ rE rJ rJ rJ rO (fun v o => ?_) | refine st_app _ rJ rE rK rE rD rJ rE rJ rE rJ rJ rJ rO (fun v o => ?_) | refine st_shift _ rJ rJ rJ rK rO rJ rJ rJ rO rO rE ?_)); refine ExL.nil ?_; refine mxEnd_n rF ?_))))
    (refine mx_act rJ rJ rJ ?_; refine st_callIs [] rJ Try.call41 rE rJ (rhas_F c (out[i]'hlt).r (out[i]'hlt).n _) ?_)
    rintro _ _ ⟨rfl, rfl⟩
    cases hb : c.has (out[i]'hlt).r (out[i]'hlt).n
    · rw [if_neg (by rw [hb]; simp)] at hst
      have hn := hnx _ hst
      clear hnx hst
      (refine ExL.nil ?_; refine mxEnd_n rF ?_; (repeat' (first | refine mx_val rJ rJ rJ rV ?_ | refine mx_nil ?_ | (first | refine mx_gskip rJ rJ rJ rJ ?_ | refine mx_gtake rJ rJ rJ ?_ | refine mx_gskipU rJ rJ rJ ?_) | (first | refine mx_slice1T rJ rJ rJ rJ (fun g => ?_) | refine mx_slice1I rJ rJ rJ rJ rJ rJ (fun g => ?_) | refine mx_slice1B rJ rJ rJ rJ rJ rJ rO rO (fun g => ?_) | refine mx_slice1S rJ rJ rJ rJ rJ rJ (fun g => ?_) | refine mx_slice2B rJ rJ rJ rJ rJ rJ rJ rO rO rO rO (fun g => ?_) | refine mx_alloc rJ rE (fun g => ?_) | refine mx_boxA rJ rJ (fun g => ?_) | refine mx_slice0 rJ rJ rJ rJ (fun g => ?_)) | (refine mx_gsplit rJ rJ rJ (fun h => ?_) (fun h => ?_) <;> try (exfalso; omega)) | (refine mx_act rJ rJ rJ ?_; (first | (apply exlCopy; first | refine st_copyW _ rJ rE rK rE rD rJ rE rJ (fun zs hzs => ?_) | refine st_copyS _ rJ rJ rK rE rD rJ rE rJ rO rO (fun zs hzs => ?_)) | (apply exlAppend; first | refine st_app0 rJ rJ rE rD rJ rE rJ rE rJ rJ rJ rO (fun v o => ?_) | refine st_app _ rJ rE rK rE rD rJ rE rJ rE rJ rJ rJ rO (fun v o => ?_) | refine st_shift _ rJ rJ rJ rK rO rJ rJ rJ rO rO rE ?_)); refine ExL.nil ?_; refine mxEnd_n rF ?_))))
      (repeat' (first | refine ExL.val rJ rJ rJ rV ?_ | (first | refine Ex.seq ?_ | refine Ex.region ?_ | refine ExL.nil ?_ | refine thn_n ?_ | refine Ex.cond_t rJ ?_ | refine Ex.cond_f rJ ?_ | refine Ex.skip ?_ | refine Ex.block ?_ | refine Ex.exit ?_ | refine Ex.ret ?_ | refine thn_exit ?_ | refine thn_ret ?_ | refine inb_n ?_ | refine inb_hit rJ ?_ | refine inb_miss rJ ?_ | refine inb_ret ?_ | refine rnd_exit ?_ | refine rnd_ret ?_ | refine meet_ret ?_ | refine meet_exit ?_) | (apply exlGuard; first | refine ExL.gskip rJ rJ rJ rJ rJ rJ ?_ | refine ExL.gtake rJ rJ rJ rJ ?_ | refine ExL.gskipU rJ rJ rJ rJ ?_ | (refine ExL.gsplit rJ rJ rJ (fun h => ?_) (fun h => ?_) <;> try (exfalso; omega))) | (first | refine st_new_ rJ rE (fun g => ?_) | refine st_boxA rJ rJ (fun g => ?_) | refine st_box1 rJ rE rN (fun g => ?_) | (apply exlStore; first | refine st_store1_ _ rJ rK rE rN rJ rJ rE rE ?_ | refine st_storeW_ _ rJ rK rJ rC rJ rJ rJ rE ?_ | refine st_storeR _ rJ rK rJ rE rJ rJ rE ?_ | refine st_storeA_ _ rJ rK rJ rC rJ rJ rJ rE rE ?_ | refine st_storeB _ rJ rJ rO rO rK rJ rO ?_ | refine st_storeG _ rJ rK rE rN rJ rO (fun cs hcs => ?_)) | refine st_slice0 rJ rJ rJ rJ (fun g => ?_) | refine st_slice1T rJ rJ rJ rJ (fun g => ?_) | refine st_makeT rJ rJ rJ rJ rE rJ rO rO (fun v o => ?_) | (apply exlCopy; first | refine st_copyW _ rJ rE rK rE rD rJ rE rJ (fun zs hzs => ?_) | refine st_copyS _ rJ rJ rK rE rD rJ rE rJ rO rO (fun zs hzs => ?_)) | refine st_sliceB rJ rJ rJ rJ rJ rJ rJ rL rE rE rJ (fun g => ?_) | refine st_slice1I rJ rJ rJ rJ rJ rJ (fun g => ?_) | refine st_slice1B rJ rJ rJ rJ rJ rJ rO rO (fun g => ?_) | refine st_slice1S rJ rJ rJ rJ rJ rJ (fun g => ?_) | refine st_slice2B rJ rJ rJ rJ rJ rJ rJ rO rO rO rO (fun g => ?_) | (apply exlConv; first | refine st_bytes rJ rJ rJ rJ rJ rO (fun v o => ?_) | refine st_mark _ rJ rJ rK rJ rJ rJ ?_) | refine st_clear _ (0 : UInt8) rJ rK rJ rJ rJ rJ rJ rO ?_ | refine st_clearT _ rJ rK rO rJ rJ rO rE ?_ | (apply exlAppend; first | refine st_app0 rJ rJ rE rD rJ rE rJ rE rJ rJ rJ rO (fun v o => ?_) | refine st_app _ rJ rE rK rE rD rJ rE rJ rE rJ rJ rJ rO (fun v o => ?_) | refine st_shift _ rJ rJ rJ rK rO rJ rJ rJ rO rO rE ?_)) | (refine Ex.cond_d rJ (fun h => ?_) (fun h => ?_) <;> try (exfalso; omega))))
      exact rnd_n ⟨out.length - (i + 1), _, by omega, Sub.refl _, hn, rfl⟩
    · cases a
      · rw [if_pos ⟨hb, .inl rfl⟩] at hst
        have hn := hnx _ hst
        clear hnx hst
        (refine ExL.nil ?_; refine mxEnd_n rF ?_; (repeat' (first | refine mx_val rJ rJ rJ rV ?_ | refine mx_nil ?_ | (first | refine mx_gskip rJ rJ rJ rJ ?_ | refine mx_gtake rJ rJ rJ ?_ | refine mx_gskipU rJ rJ rJ ?_) | (first | refine mx_slice1T rJ rJ rJ rJ (fun g => ?_) | refine mx_slice1I rJ rJ rJ rJ rJ rJ (fun g => ?_) | refine mx_slice1B rJ rJ rJ rJ rJ rJ rO rO (fun g => ?_) | refine mx_slice1S rJ rJ rJ rJ rJ rJ (fun g => ?_) | refine mx_slice2B rJ rJ rJ rJ rJ rJ rJ rO rO rO rO (fun g => ?_) | refine mx_alloc rJ rE (fun g => ?_) | refine mx_boxA rJ rJ (fun g => ?_) | refine mx_slice0 rJ rJ rJ rJ (fun g => ?_)) | (refine mx_gsplit rJ rJ rJ (fun h => ?_) (fun h => ?_) <;> try (exfalso; omega)) | (refine mx_act rJ rJ rJ ?_; (first | (apply exlCopy; first | refine st_copyW _ rJ rE rK rE rD rJ rE rJ (fun zs hzs => ?_) | refine st_copyS _ rJ rJ rK rE rD rJ rE rJ rO rO (fun zs hzs => ?_)) | (apply exlAppend; first | refine st_app0 rJ rJ rE rD rJ rE rJ rE rJ rJ rJ rO (fun v o => ?_) | refine st_app _ rJ rE rK rE rD rJ rE rJ rE rJ rJ rJ rO (fun v o => ?_) | refine st_shift _ rJ rJ rJ rK rO rJ rJ rJ rO rO rE ?_)); refine ExL.nil ?_; refine mxEnd_n rF ?_))))
        (repeat' (first | refine ExL.val rJ rJ rJ rV ?_ | (first | refine Ex.seq ?_ | refine Ex.region ?_ | refine ExL.nil ?_ | refine thn_n ?_ | refine Ex.cond_t rJ ?_ | refine Ex.cond_f rJ ?_ | refine Ex.skip ?_ | refine Ex.block ?_ | refine Ex.exit ?_ | refine Ex.ret ?_ | refine thn_exit ?_ | refine thn_ret ?_ | refine inb_n ?_ | refine inb_hit rJ ?_ | refine inb_miss rJ ?_ | refine inb_ret ?_ | refine rnd_exit ?_ | refine rnd_ret ?_ | refine meet_ret ?_ | refine meet_exit ?_) | (apply exlGuard; first | refine ExL.gskip rJ rJ rJ rJ rJ rJ ?_ | refine ExL.gtake rJ rJ rJ rJ ?_ | refine ExL.gskipU rJ rJ rJ rJ ?_ | (refine ExL.gsplit rJ rJ rJ (fun h => ?_) (fun h => ?_) <;> try (exfalso; omega))) | (first | refine st_new_ rJ rE (fun g => ?_) | refine st_boxA rJ rJ (fun g => ?_) | refine st_box1 rJ rE rN (fun g => ?_) | (apply exlStore; first | refine st_store1_ _ rJ rK rE rN rJ rJ rE rE ?_ | refine st_storeW_ _ rJ rK rJ rC rJ rJ rJ rE ?_ | refine st_storeR _ rJ rK rJ rE rJ rJ rE ?_ | refine st_storeA_ _ rJ rK rJ rC rJ rJ rJ rE rE ?_ | refine st_storeB _ rJ rJ rO rO rK rJ rO ?_ | refine st_storeG _ rJ rK rE rN rJ rO (fun cs hcs => ?_)) | refine st_slice0 rJ rJ rJ rJ (fun g => ?_) | refine st_slice1T rJ rJ rJ rJ (fun g => ?_) | refine st_makeT rJ rJ rJ rJ rE rJ rO rO (fun v o => ?_) | (apply exlCopy; first | refine st_copyW _ rJ rE rK rE rD rJ rE rJ (fun zs hzs => ?_) | refine st_copyS _ rJ rJ rK rE rD rJ rE rJ rO rO (fun zs hzs => ?_)) | refine st_sliceB rJ rJ rJ rJ rJ rJ rJ rL rE rE rJ (fun g => ?_) | refine st_slice1I rJ rJ rJ rJ rJ rJ (fun g => ?_) | refine st_slice1B rJ rJ rJ rJ rJ rJ rO rO (fun g => ?_) | refine st_slice1S rJ rJ rJ rJ rJ rJ (fun g => ?_) | refine st_slice2B rJ rJ rJ rJ rJ rJ rJ rO rO rO rO (fun g => ?_) | (apply exlConv; first | refine st_bytes rJ rJ rJ rJ rJ rO (fun v o => ?_) | refine st_mark _ rJ rJ rK rJ rJ rJ ?_) | refine st_clear _ (0 : UInt8) rJ rK rJ rJ rJ rJ rJ rO ?_ | refine st_clearT _ rJ rK rO rJ rJ rO rE ?_ | (apply exlAppend; first | refine st_app0 rJ rJ rE rD rJ rE rJ rE rJ rJ rJ rO (fun v o => ?_) | refine st_app _ rJ rE rK rE rD rJ rE rJ rE rJ rJ rJ rO (fun v o => ?_) | refine st_shift _ rJ rJ rJ rK rO rJ rJ rJ rO rO rE ?_)) | (refine Ex.cond_d rJ (fun h => ?_) (fun h => ?_) <;> try (exfalso; omega))))
        exact rnd_n ⟨out.length - (i + 1), _, by omega, Sub.refl _, hn, rfl⟩
      · by_cases hgt : h < (out[i]'hlt).h
        · rw [if_pos ⟨hb, .inr hgt⟩] at hst
          have hn := hnx _ hst
          clear hnx hst
          (refine ExL.nil ?_; refine mxEnd_n rF ?_; (repeat' (first | refine mx_val rJ rJ rJ rV ?_ | refine mx_nil ?_ | (first | refine mx_gskip rJ rJ rJ rJ ?_ | refine mx_gtake rJ rJ rJ ?_ | refine mx_gskipU rJ rJ rJ ?_) | (first | refine mx_slice1T rJ rJ rJ rJ (fun g => ?_) | refine mx_slice1I rJ rJ rJ rJ rJ rJ (fun g => ?_) | refine mx_slice1B rJ rJ rJ rJ rJ rJ rO rO (fun g => ?_) | refine mx_slice1S rJ rJ rJ rJ rJ rJ (fun g => ?_) | refine mx_slice2B rJ rJ rJ rJ rJ rJ rJ rO rO rO rO (fun g => ?_) | refine mx_alloc rJ rE (fun g => ?_) | refine mx_boxA rJ rJ (fun g => ?_) | refine mx_slice0 rJ rJ rJ rJ (fun g => ?_)) | (refine mx_gsplit rJ rJ rJ (fun h => ?_) (fun h => ?_) <;> try (exfalso; omega)) | (refine mx_act rJ rJ rJ ?_; (first | (apply exlCopy; first | refine st_copyW _ rJ rE rK rE rD rJ rE rJ (fun zs hzs => ?_) | refine st_copyS _ rJ rJ rK rE rD rJ rE rJ rO rO (fun zs hzs => ?_)) | (apply exlAppend; first | refine st_app0 rJ rJ rE rD rJ rE rJ rE rJ rJ rJ rO (fun v o => ?_) | refine st_app _ rJ rE rK rE rD rJ rE rJ rE rJ rJ rJ rO (fun v o => ?_) | refine st_shift _ rJ rJ rJ rK rO rJ rJ rJ rO rO rE ?_)); refine ExL.nil ?_; refine mxEnd_n rF ?_))))
          (repeat' (first | refine ExL.val rJ rJ rJ rV ?_ | (first | refine Ex.seq ?_ | refine Ex.region ?_ | refine ExL.nil ?_ | refine thn_n ?_ | refine Ex.cond_t rJ ?_ | refine Ex.cond_f rJ ?_ | refine Ex.skip ?_ | refine Ex.block ?_ | refine Ex.exit ?_ | refine Ex.ret ?_ | refine thn_exit ?_ | refine thn_ret ?_ | refine inb_n ?_ | refine inb_hit rJ ?_ | refine inb_miss rJ ?_ | refine inb_ret ?_ | refine rnd_exit ?_ | refine rnd_ret ?_ | refine meet_ret ?_ | refine meet_exit ?_) | (apply exlGuard; first | refine ExL.gskip rJ rJ rJ rJ rJ rJ ?_ | refine ExL.gtake rJ rJ rJ rJ ?_ | refine ExL.gskipU rJ rJ rJ rJ ?_ | (refine ExL.gsplit rJ rJ rJ (fun h => ?_) (fun h => ?_) <;> try (exfalso; omega))) | (first | refine st_new_ rJ rE (fun g => ?_) | refine st_boxA rJ rJ (fun g => ?_) | refine st_box1 rJ rE rN (fun g => ?_) | (apply exlStore; first | refine st_store1_ _ rJ rK rE rN rJ rJ rE rE ?_ | refine st_storeW_ _ rJ rK rJ rC rJ rJ rJ rE ?_ | refine st_storeR _ rJ rK rJ rE rJ rJ rE ?_ | refine st_storeA_ _ rJ rK rJ rC rJ rJ rJ rE rE ?_ | refine st_storeB _ rJ rJ rO rO rK rJ rO ?_ | refine st_storeG _ rJ rK rE rN rJ rO (fun cs hcs => ?_)) | refine st_slice0 rJ rJ rJ rJ (fun g => ?_) | refine st_slice1T rJ rJ rJ rJ (fun g => ?_) | refine st_makeT rJ rJ rJ rJ rE rJ rO rO (fun v o => ?_) | (apply exlCopy; first | refine st_copyW _ rJ rE rK rE rD rJ rE rJ (fun zs hzs => ?_) | refine st_copyS _ rJ rJ rK rE rD rJ rE rJ rO rO (fun zs hzs => ?_)) | refine st_sliceB rJ rJ rJ rJ rJ rJ rJ rL rE rE rJ (fun g => ?_) | refine st_slice1I rJ rJ rJ rJ rJ rJ (fun g => ?_) | refine st_slice1B rJ rJ rJ rJ rJ rJ rO rO (fun g => ?_) | refine st_slice1S rJ rJ rJ rJ rJ rJ (fun g => ?_) | refine st_slice2B rJ rJ rJ rJ rJ rJ rJ rO rO rO rO (fun g => ?_) | (apply exlConv; first | refine st_bytes rJ rJ rJ rJ rJ rO (fun v o => ?_) | refine st_mark _ rJ rJ rK rJ rJ rJ ?_) | refine st_clear _ (0 : UInt8) rJ rK rJ rJ rJ rJ rJ rO ?_ | refine st_clearT _ rJ rK rO rJ rJ rO rE ?_ | (apply exlAppend; first | refine st_app0 rJ rJ rE rD rJ rE rJ rE rJ rJ rJ rO (fun v o => ?_) | refine st_app _ rJ rE rK rE rD rJ rE rJ rE rJ rJ rJ rO (fun v o => ?_) | refine st_shift _ rJ rJ rJ rK rO rJ rJ rJ rO rO rE ?_)) | (refine Ex.cond_d rJ (fun h => ?_) (fun h => ?_) <;> try (exfalso; omega))))
          exact rnd_n ⟨out.length - (i + 1), _, by omega, Sub.refl _, hn, rfl⟩
        · rw [if_neg (by rintro ⟨_, h1 | h1⟩; cases h1; exact hgt h1)] at hst
          have hn := hnx _ hst
          clear hnx hst
          (refine ExL.nil ?_; refine mxEnd_n rF ?_; (repeat' (first | refine mx_val rJ rJ rJ rV ?_ | refine mx_nil ?_ | (first | refine mx_gskip rJ rJ rJ rJ ?_ | refine mx_gtake rJ rJ rJ ?_ | refine mx_gskipU rJ rJ rJ ?_) | (first | refine mx_slice1T rJ rJ rJ rJ (fun g => ?_) | refine mx_slice1I rJ rJ rJ rJ rJ rJ (fun g => ?_) | refine mx_slice1B rJ rJ rJ rJ rJ rJ rO rO (fun g => ?_) | refine mx_slice1S rJ rJ rJ rJ rJ rJ (fun g => ?_) | refine mx_slice2B rJ rJ rJ rJ rJ rJ rJ rO rO rO rO (fun g => ?_) | refine mx_alloc rJ rE (fun g => ?_) | refine mx_boxA rJ rJ (fun g => ?_) | refine mx_slice0 rJ rJ rJ rJ (fun g => ?_)) | (refine mx_gsplit rJ rJ rJ (fun h => ?_) (fun h => ?_) <;> try (exfalso; omega)) | (refine mx_act rJ rJ rJ ?_; (first | (apply exlCopy; first | refine st_copyW _ rJ rE rK rE rD rJ rE rJ (fun zs hzs => ?_) | refine st_copyS _ rJ rJ rK rE rD rJ rE rJ rO rO (fun zs hzs => ?_)) | (apply exlAppend; first | refine st_app0 rJ rJ rE rD rJ rE rJ rE rJ rJ rJ rO (fun v o => ?_) | refine st_app _ rJ rE rK rE rD rJ rE rJ rE rJ rJ rJ rO (fun v o => ?_) | refine st_shift _ rJ rJ rJ rK rO rJ rJ rJ rO rO rE ?_)); refine ExL.nil ?_; refine mxEnd_n rF ?_))))
          (repeat' (first | refine ExL.val rJ rJ rJ rV ?_ | (first | refine Ex.seq ?_ | refine Ex.region ?_ | refine ExL.nil ?_ | refine thn_n ?_ | refine Ex.cond_t rJ ?_ | refine Ex.cond_f rJ ?_ | refine Ex.skip ?_ | refine Ex.block ?_ | refine Ex.exit ?_ | refine Ex.ret ?_ | refine thn_exit ?_ | refine thn_ret ?_ | refine inb_n ?_ | refine inb_hit rJ ?_ | refine inb_miss rJ ?_ | refine inb_ret ?_ | refine rnd_exit ?_ | refine rnd_ret ?_ | refine meet_ret ?_ | refine meet_exit ?_) | (apply exlGuard; first | refine ExL.gskip rJ rJ rJ rJ rJ rJ ?_ | refine ExL.gtake rJ rJ rJ rJ ?_ | refine ExL.gskipU rJ rJ rJ rJ ?_ | (refine ExL.gsplit rJ rJ rJ (fun h => ?_) (fun h => ?_) <;> try (exfalso; omega))) | (first | refine st_new_ rJ rE (fun g => ?_) | refine st_boxA rJ rJ (fun g => ?_) | refine st_box1 rJ rE rN (fun g => ?_) | (apply exlStore; first | refine st_store1_ _ rJ rK rE rN rJ rJ rE rE ?_ | refine st_storeW_ _ rJ rK rJ rC rJ rJ rJ rE ?_ | refine st_storeR _ rJ rK rJ rE rJ rJ rE ?_ | refine st_storeA_ _ rJ rK rJ rC rJ rJ rJ rE rE ?_ | refine st_storeB _ rJ rJ rO rO rK rJ rO ?_ | refine st_storeG _ rJ rK rE rN rJ rO (fun cs hcs => ?_)) | refine st_slice0 rJ rJ rJ rJ (fun g => ?_) | refine st_slice1T rJ rJ rJ rJ (fun g => ?_) | refine st_makeT rJ rJ rJ rJ rE rJ rO rO (fun v o => ?_) | (apply exlCopy; first | refine st_copyW _ rJ rE rK rE rD rJ rE rJ (fun zs hzs => ?_) | refine st_copyS _ rJ rJ rK rE rD rJ rE rJ rO rO (fun zs hzs => ?_)) | refine st_sliceB rJ rJ rJ rJ rJ rJ rJ rL rE rE rJ (fun g => ?_) | refine st_slice1I rJ rJ rJ rJ rJ rJ (fun g => ?_) | refine st_slice1B rJ rJ rJ rJ rJ rJ rO rO (fun g => ?_) | refine st_slice1S rJ rJ rJ rJ rJ rJ (fun g => ?_) | refine st_slice2B rJ rJ rJ rJ rJ rJ rJ rO rO rO rO (fun g => ?_) | (apply exlConv; first | refine st_bytes rJ rJ rJ rJ rJ rO (fun v o => ?_) | refine st_mark _ rJ rJ rK rJ rJ rJ ?_) | refine st_clear _ (0 : UInt8) rJ rK rJ rJ rJ rJ rJ rO ?_ | refine st_clearT _ rJ rK rO rJ rJ rO rE ?_ | (apply exlAppend; first | refine st_app0 rJ rJ rE rD rJ rE rJ rE rJ rJ rJ rO (fun v o => ?_) | refine st_app _ rJ rE rK rE rD rJ rE rJ rE rJ rJ rJ rO (fun v o => ?_) | refine st_shift _ rJ rJ rJ rK rO rJ rJ rJ rO rO rE ?_)) | (refine Ex.cond_d rJ (fun h => ?_) (fun h => ?_) <;> try (exfalso; omega))))
          exact rnd_n ⟨out.length - (i + 1), _, by omega, Sub.refl _, hn, rfl⟩
  · obtain rfl : i = out.length := by omega
    rw [List.take_length]
    have hb := height_bd (c := c) hh (by omega)
    unfold heightP
    (repeat' (first | refine ExL.val rJ rJ rJ rV ?_ | (first | refine Ex.seq ?_ | refine Ex.region ?_ | refine ExL.nil ?_ | refine thn_n ?_ | refine Ex.cond_t rJ ?_ | refine Ex.cond_f rJ ?_ | refine Ex.skip ?_ | refine Ex.block ?_ | refine Ex.exit ?_ | refine Ex.ret ?_ | refine thn_exit ?_ | refine thn_ret ?_ | refine inb_n ?_ | refine inb_hit rJ ?_ | refine inb_miss rJ ?_ | refine inb_ret ?_ | refine rnd_exit ?_ | refine rnd_ret ?_ | refine meet_ret ?_ | refine meet_exit ?_) | (apply exlGuard; first | refine ExL.gskip rJ rJ rJ rJ rJ rJ ?_ | refine ExL.gtake rJ rJ rJ rJ ?_ | refine ExL.gskipU rJ rJ rJ rJ ?_ | (refine ExL.gsplit rJ rJ rJ (fun h => ?_) (fun h => ?_) <;> try (exfalso; omega))) | (first | refine st_new_ rJ rE (fun g => ?_) | refine st_boxA rJ rJ (fun g => ?_) | refine st_box1 rJ rE rN (fun g => ?_) | (apply exlStore; first | refine st_store1_ _ rJ rK rE rN rJ rJ rE rE ?_ | refine st_storeW_ _ rJ rK rJ rC rJ rJ rJ rE ?_ | refine st_storeR _ rJ rK rJ rE rJ rJ rE ?_ | refine st_storeA_ _ rJ rK rJ rC rJ rJ rJ rE rE ?_ | refine st_storeB _ rJ rJ rO rO rK rJ rO ?_ | refine st_storeG _ rJ rK rE rN rJ rO (fun cs hcs => ?_)) | refine st_slice0 rJ rJ rJ rJ (fun g => ?_) | refine st_slice1T rJ rJ rJ rJ (fun g => ?_) | refine st_makeT rJ rJ rJ rJ rE rJ rO rO (fun v o => ?_) | (apply exlCopy; first | refine st_copyW _ rJ rE rK rE rD rJ rE rJ (fun zs hzs => ?_) | refine st_copyS _ rJ rJ rK rE rD rJ rE rJ rO rO (fun zs hzs => ?_)) | refine st_sliceB rJ rJ rJ rJ rJ rJ rJ rL rE rE rJ (fun g => ?_) | refine st_slice1I rJ rJ rJ rJ rJ rJ (fun g => ?_) | refine st_slice1B rJ rJ rJ rJ rJ rJ rO rO (fun g => ?_) | refine st_slice1S rJ rJ rJ rJ rJ rJ (fun g => ?_) | refine st_slice2B rJ rJ rJ rJ rJ rJ rJ rO rO rO rO (fun g => ?_) | (apply exlConv; first | refine st_bytes rJ rJ rJ rJ rJ rO (fun v o => ?_) | refine st_mark _ rJ rJ rK rJ rJ rJ ?_) | refine st_clear _ (0 : UInt8) rJ rK rJ rJ rJ rJ rJ rO ?_ | refine st_clearT _ rJ rK rO rJ rJ rO rE ?_ | (apply exlAppend; first | refine st_app0 rJ rJ rE rD rJ rE rJ rE rJ rJ rJ rO (fun v o => ?_) | refine st_app _ rJ rE rK rE rD rJ rE rJ rE rJ rJ rJ rO (fun v o => ?_) | refine st_shift _ rJ rJ rJ rK rO rJ rJ rJ rO rO rE ?_)) | (refine Ex.cond_d rJ (fun h => ?_) (fun h => ?_) <;> try (exfalso; omega))))
    (first | refine fin_ret rS ?_ | refine fin_norm rS ?_)
    exact ⟨_, rB, rfl, rfl⟩
end Go.Proofs.Ytcclbplccnaonaa
