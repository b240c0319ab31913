/- Several texts, one behind the other; each says in its head what it proves. No condition. -/
import Derived.Test.YtkcpgdkchglhhaaZfgeehngk
import Derived.Test.YtkcpgdkchglhhaaZldjckhlk
/- A post whose shelves hold rows, in plain words. No condition. -/
namespace Go.Proofs.Ytkcpgdkchglhhaa
open Go.RowKit
set_option linter.unusedSimpArgs false
set_option linter.unusedVariables false
def put1 {α : Type} (f : Nat → α) (r : Nat) (v : α) : Nat → α := fun i => if i = r then v else f i
theorem put1_same {α : Type} (f : Nat → α) (r : Nat) (v : α) : put1 f r v r = v := if_pos rfl
theorem put1_else {α : Type} (f : Nat → α) {r i : Nat} (v : α) (h : i ≠ r) : put1 f r v i = f i := if_neg h
theorem range_set {α : Type} (f : Nat → α) (n r : Nat) (v : α) : ((List.range n).map f).set r v = (List.range n).map (put1 f r v) := by
  apply List.ext_getElem
  · simp
  · intro i h1 h2
    simp only [List.length_set, List.length_map, List.length_range] at h1
    rw [List.getElem_set, List.getElem_map, List.getElem_map, List.getElem_range]
    unfold put1
    by_cases h : i = r
    · rw [if_pos h.symm, if_pos h]
    · rw [if_neg (fun k => h k.symm), if_neg h]
theorem range_getD {α : Type} (f : Nat → α) (n r : Nat) (v : α) (h : r < n) : ((List.range n).map f).getD r v = f r := by
  simp [List.getD_eq_getElem?_getD, h]
theorem range_congr {α : Type} {f g : Nat → α} {n : Nat} (h : ∀ i, i < n → f i = g i) : (List.range n).map f = (List.range n).map g :=
  List.map_congr_left fun i hi => h i (List.mem_range.1 hi)
/-- A post of n replicas: what each told, how many its row has, how many of it were cut. -/
def mkR (n : Nat) (told : Nat → Clk) (len cut : Nat → Nat) : PSt := ⟨(List.range n).map told, (List.range n).map fun (i : Nat) => ⟨rowR i 1 (len i), cut i⟩⟩
theorem mkR_congr {n : Nat} {t t' : Nat → Clk} {l l' c c' : Nat → Nat} (h1 : ∀ i, i < n → t i = t' i) (h2 : ∀ i, i < n → l i = l' i) (h3 : ∀ i, i < n → c i = c' i) : mkR n t l c = mkR n t' l' c' := by
  unfold mkR
  rw [range_congr h1, range_congr (f := fun (i : Nat) => (⟨rowR i 1 (l i), c i⟩ : Sf)) (g := fun (i : Nat) => ⟨rowR i 1 (l' i), c' i⟩) fun i hi => by rw [h2 i hi, h3 i hi]]
def leastF (n : Nat) (told : Nat → Clk) (i : Nat) : Int := leastR ((List.range n).map told) i
theorem foldmin_le : ∀ (l : List Int) (a : Int), l.foldl min a ≤ a ∧ ∀ x ∈ l, l.foldl min a ≤ x
  | [], a => ⟨Int.le_refl _, fun x h => by cases h⟩
  | y :: l, a => by
    obtain ⟨h1, h2⟩ := foldmin_le l (min a y)
    refine ⟨by simp only [List.foldl_cons]; omega, fun x hx => ?_⟩
    simp only [List.foldl_cons]
    rcases List.mem_cons.1 hx with rfl | hx
    · omega
    · exact h2 x hx
theorem foldmin_mem : ∀ (l : List Int) (a : Int), l.foldl min a = a ∨ l.foldl min a ∈ l
  | [], a => .inl rfl
  | y :: l, a => by
    simp only [List.foldl_cons]
    rcases foldmin_mem l (min a y) with h | h
    · rw [h]
      by_cases hm : a ≤ y
      · left; omega
      · right; rw [Int.min_eq_right (by omega)]; exact List.mem_cons_self ..
    · exact .inr (List.mem_cons_of_mem _ h)
theorem leastF_le {n : Nat} {told : Nat → Clk} {i j : Nat} (hj : j < n) : leastF n told i ≤ (told j).get i := by
  unfold leastF leastR
  exact (foldmin_le _ _).2 _ (List.mem_map.2 ⟨told j, List.mem_map.2 ⟨j, List.mem_range.2 hj, rfl⟩, rfl⟩)
theorem leastF_some {n : Nat} {told : Nat → Clk} {i : Nat} (hn : 0 < n) : ∃ j, j < n ∧ leastF n told i = (told j).get i := by
  unfold leastF leastR
  rcases foldmin_mem (((List.range n).map told).map (·.get i)) ((((List.range n).map told).headD Clk.zero).get i) with h | h
  · refine ⟨0, hn, ?_⟩
    rw [h]
    cases n with
    | zero => omega
    | succ n => simp [List.range_succ_eq_map]
  · rw [List.map_map, List.mem_map] at h
    obtain ⟨j, hj, e⟩ := h
    exact ⟨j, List.mem_range.1 hj, by rw [List.map_map]; exact e.symm⟩
/-- The least is m: none is below, one is it. -/
theorem leastF_eq {n : Nat} {told : Nat → Clk} {i : Nat} {m : Int} (h1 : ∀ j, j < n → m ≤ (told j).get i) {j : Nat} (hj : j < n) (h2 : (told j).get i = m) : leastF n told i = m := by
  have h3 := leastF_le (told := told) (i := i) hj
  obtain ⟨k, hk, h4⟩ := leastF_some (told := told) (i := i) (show 0 < n by omega)
  have := h1 k hk
  omega
theorem leastF_congr {n : Nat} {t t' : Nat → Clk} {i : Nat} (h : ∀ j, j < n → t j = t' j) : leastF n t i = leastF n t' i := by unfold leastF; rw [range_congr h]
def cutTo (c : Nat) (m : Int) (l : Nat) : Nat := (max (c : Int) (min m l)).toNat
theorem cutTo_le {c l : Nat} (h : c ≤ l) (m : Int) : c ≤ cutTo c m l ∧ cutTo c m l ≤ l := by unfold cutTo; omega
theorem cutTo_twice (c l : Nat) (m : Int) : cutTo (cutTo c m l) m l = cutTo c m l := by unfold cutTo; omega
theorem mkR_len (n : Nat) (told : Nat → Clk) (len cut : Nat → Nat) : (mkR n told len cut).sf.length = n := by simp [mkR]
theorem mkR_has (n : Nat) (told : Nat → Clk) (len cut : Nat → Nat) (r : Int) : (mkR n told len cut).has r ↔ 0 ≤ r ∧ r < n := by unfold PSt.has; rw [mkR_len]
theorem mkR_get (n : Nat) (told : Nat → Clk) (len cut : Nat → Nat) {i : Nat} (h : i < n) : (mkR n told len cut).sf.getD i Sf.none = ⟨rowR i 1 (len i), cut i⟩ := range_getD _ _ _ _ h
theorem mkR_ok {n : Nat} {told : Nat → Clk} {len cut : Nat → Nat} {B : Nat} (hn : n ≤ 5) (h : ∀ i, i < n → cut i ≤ len i ∧ len i ≤ B) : (mkR n told len cut).Ok B := by
  refine ⟨by rw [mkR_len]; exact hn, by simp [mkR], fun x hx => ?_⟩
  simp only [mkR, List.mem_map, List.mem_range] at hx
  obtain ⟨i, hi, rfl⟩ := hx
  have := h i hi
  exact ⟨by unfold Sf.Ok; simp only [rowR_len]; omega, by simp only [rowR_len]; omega⟩
theorem mkR_ackno (n : Nat) (told : Nat → Clk) (len cut : Nat → Nat) {r : Int} (c : Clk) (h : ¬ (0 ≤ r ∧ r < n)) : (mkR n told len cut).ack r c = (23, mkR n told len cut) := by
  unfold PSt.ack
  rw [if_pos (fun k => h ((mkR_has ..).1 k))]
theorem mkR_pushno (most : Int) (n : Nat) (told : Nat → Clk) (len cut : Nat → Nat) {r : Int} (l : List Ev) (h : ¬ (0 ≤ r ∧ r < n)) : (mkR n told len cut).push most r l = (0, 23, mkR n told len cut) := by
  unfold PSt.push
  rw [if_pos (.inl (fun k => h ((mkR_has ..).1 k)))]
theorem mkR_fetchno (n : Nat) (told : Nat → Clk) (len cut : Nat → Nat) {r : Int} (c : Clk) (h : ¬ (0 ≤ r ∧ r < n)) : (mkR n told len cut).fetch r c = ([], 23) := by
  unfold PSt.fetch
  rw [if_pos (fun k => h ((mkR_has ..).1 k))]
theorem mkR_ack (n : Nat) (told : Nat → Clk) (len cut : Nat → Nat) {r : Nat} (c : Clk) (h : r < n) : (mkR n told len cut).ack r c = (0, mkR n (put1 told r ((told r).join c)) len fun i => cutTo (cut i) (leastF n (put1 told r ((told r).join c)) i) (len i)) := by
  unfold PSt.ack
  rw [if_neg (fun k => k ((mkR_has ..).2 ⟨by omega, by omega⟩)), mkR_len]
  have e1 : (mkR n told len cut).told.getD r Clk.zero = told r := range_getD _ _ _ _ h
  have e2 : (mkR n told len cut).told.set r ((told r).join c) = (List.range n).map (put1 told r ((told r).join c)) := range_set _ _ _ _
  rw [Int.toNat_natCast, e1, e2]
  congr 1
  have h1 := PSt.cutN_told (⟨(List.range n).map (put1 told r ((told r).join c)), (mkR n told len cut).sf⟩ : PSt) n
  have h2 : ((⟨(List.range n).map (put1 told r ((told r).join c)), (mkR n told len cut).sf⟩ : PSt).cutN n).sf = (mkR n (put1 told r ((told r).join c)) len fun i => cutTo (cut i) (leastF n (put1 told r ((told r).join c)) i) (len i)).sf := by
    refine List.ext_getElem (by rw [PSt.cutN_len, mkR_len, mkR_len]) fun i hi1 hi2 => ?_
    rw [PSt.cutN_len] at hi1
    have hi1' : i < (mkR n told len cut).sf.length := hi1
    have hin : i < n := by rwa [mkR_len] at hi1'
    rw [PSt.cutN_get _ _ n i hi1' (by rw [mkR_len]; exact Nat.le_refl _), if_pos hin]
    simp only [mkR, List.getElem_map, List.getElem_range, Sf.to, rowR_len]
    rfl
  cases hc : (⟨(List.range n).map (put1 told r ((told r).join c)), (mkR n told len cut).sf⟩ : PSt).cutN n with
  | mk a b =>
    rw [hc] at h1 h2
    simp only at h1 h2
    rw [h1, h2]
    rfl
theorem mkR_putR {most : Int} {r : Nat} {l c k : Nat} {a : Int} (ha : k = 0 ∨ a ≤ l + 1) (hcl : c ≤ l) {f : Nat} (hf : f = k - ((l : Int) + 1 - a).toNat) (hw : f = 0 ∨ (l : Int) - c + f ≤ most) :
    (⟨rowR r 1 l, c⟩ : Sf).put most (rowR r a k) = (0, ⟨rowR r 1 (l + f), c⟩) := by
  have h1 : fresh (l : Int) (rowR r a k) = rowR r (l + 1) f := by
    rcases ha with rfl | ha
    · have : f = 0 := by omega
      subst this; rfl
    · rw [rowR_fresh _ _ _ _ ha, hf]
  have h2 : putR most ((rowR r 1 l).length : Nat) (((rowR r 1 l).length - c : Nat) : Int) (rowR r a k) = (0, rowR r (l + 1) f) := by
    rw [rowR_len, putR_ok ((rowR_gap _ _ _ _).2 ha), h1]
    rw [h1, rowR_len]
    rcases hw with rfl | hw
    · exact .inl rfl
    · right; omega
  unfold Sf.put
  simp only [h2]
  congr 2
  rw [Int.add_comm (l : Int) 1, rowR_app]
theorem mkR_putF {most : Int} {r : Nat} {l c k : Nat} {a : Int} (ha : a ≤ l + 1) (hcl : c ≤ l) {f : Nat} (hf : f = k - ((l : Int) + 1 - a).toNat) (h0 : 0 < f) (hw : most < (l : Int) - c + f) :
    ((⟨rowR r 1 l, c⟩ : Sf).put most (rowR r a k)).1 = 21 := by
  have h1 : fresh (l : Int) (rowR r a k) = rowR r (l + 1) f := by rw [rowR_fresh _ _ _ _ ha, hf]
  have h2 : putR most ((rowR r 1 l).length : Nat) (((rowR r 1 l).length - c : Nat) : Int) (rowR r a k) = (21, []) := by
    rw [rowR_len]
    refine putR_full ((rowR_gap _ _ _ _).2 (.inr ha)) ?_ ?_
    · rw [h1]; intro h; have := congrArg List.length h; rw [rowR_len] at this; simp at this; omega
    · rw [h1, rowR_len]; omega
  unfold Sf.put
  simp only [h2]
theorem mkR_push {most : Int} (n : Nat) (told : Nat → Clk) (len cut : Nat → Nat) {r k : Nat} {a : Int} (hr : r < n) (ha : k = 0 ∨ a ≤ len r + 1) (hcl : cut r ≤ len r) {f : Nat} (hf : f = k - ((len r : Int) + 1 - a).toNat) (hw : f = 0 ∨ (len r : Int) - cut r + f ≤ most) :
    (mkR n told len cut).push most r (rowR r a k) = (((len r + f : Nat) : Int), 0, mkR n told (put1 len r (len r + f)) (put1 cut r (cutTo (cut r) (leastF n told r) (len r + f)))) := by
  unfold PSt.push
  rw [if_neg (by
    rintro (h | ⟨e, he, h⟩)
    · exact h ((mkR_has ..).2 ⟨by omega, by omega⟩)
    · obtain ⟨i, hi, rfl⟩ := rowR_mem he
      exact h rfl), Int.toNat_natCast, mkR_get _ _ _ _ hr, mkR_putR ha hcl hf hw]
  simp only [ne_eq, not_true_eq_false, ↓reduceIte, rowR_len, PSt.cutAt, List.set_set]
  congr 2
  unfold mkR
  simp only [range_set, PSt.mk.injEq, true_and]
  rw [range_getD _ _ _ _ hr, put1_same]
  refine range_congr fun i hi => ?_
  by_cases h : i = r
  · subst h
    rw [put1_same, put1_same, put1_same]
    simp only [Sf.to, rowR_len]
    rfl
  · rw [put1_else _ _ h, put1_else _ _ h, put1_else _ _ h]
theorem mkR_pushF {most : Int} (n : Nat) (told : Nat → Clk) (len cut : Nat → Nat) {r k : Nat} {a : Int} (hr : r < n) (ha : a ≤ len r + 1) (hcl : cut r ≤ len r) {f : Nat} (hf : f = k - ((len r : Int) + 1 - a).toNat) (h0 : 0 < f) (hw : most < (len r : Int) - cut r + f) :
    (mkR n told len cut).push most r (rowR r a k) = (0, 21, mkR n told len cut) := by
  unfold PSt.push
  have h1 := mkR_putF (r := r) ha hcl hf h0 hw
  rw [if_neg (by
    rintro (h | ⟨e, he, h⟩)
    · exact h ((mkR_has ..).2 ⟨by omega, by omega⟩)
    · obtain ⟨i, hi, rfl⟩ := rowR_mem he
      exact h rfl), Int.toNat_natCast, mkR_get _ _ _ _ hr]
  simp only [h1]
  rfl
theorem above_rowR (c : Int) (r : Int) (a : Int) (m : Nat) : above c (rowR r a m) = rowR r (max a (c + 1)) (m - (c + 1 - a).toNat) := by
  by_cases h : a ≤ c + 1
  · rw [show above c (rowR r a m) = fresh c (rowR r a m) from rfl, rowR_fresh _ _ _ _ h, Int.max_eq_right h]
  · rw [Int.max_eq_left (by omega), show (c + 1 - a).toNat = 0 by omega, Nat.sub_zero]
    unfold above
    rw [List.filter_eq_self]
    intro e he
    obtain ⟨i, hi, rfl⟩ := rowR_mem he
    show decide (c < a + (i : Int)) = true
    rw [decide_eq_true_eq]
    omega
/-- What r gets of the first k rows, who has c. -/
def getR (len cut : Nat → Nat) (r : Int) (c : Clk) (k : Nat) : List Ev := (List.range k).flatMap fun (i : Nat) => if (i : Int) ≠ r then rowR i (max (c.get i) (cut i) + 1) ((len i : Int) - max (c.get i) (cut i)).toNat else []
theorem mkR_getN (n : Nat) (told : Nat → Clk) (len cut : Nat → Nat) (hcl : ∀ i, i < n → cut i ≤ len i) (r : Int) (c : Clk) : ∀ k, k ≤ n → (mkR n told len cut).getN r c k = getR len cut r c k
  | 0, _ => rfl
  | k + 1, hk => by
    have ih := mkR_getN n told len cut hcl r c k (by omega)
    have := hcl k (by omega)
    unfold getR at ih ⊢
    rw [List.range_succ, List.flatMap_append]
    simp only [PSt.getN, List.flatMap_cons, List.flatMap_nil, List.append_nil]
    rw [ih, mkR_get _ _ _ _ (by omega)]
    split
    · congr 1
      simp only
      rw [rowR_drop, above_rowR]
      congr 1 <;> omega
    · simp
theorem mkR_fetch (n : Nat) (told : Nat → Clk) (len cut : Nat → Nat) (hcl : ∀ i, i < n → cut i ≤ len i) {r : Nat} (c : Clk) (h : r < n) : (mkR n told len cut).fetch r c = (getR len cut r c n, 0) := by
  unfold PSt.fetch
  rw [if_neg (fun k => k ((mkR_has ..).2 ⟨by omega, by omega⟩)), mkR_len, mkR_getN n told len cut hcl _ _ _ (Nat.le_refl _)]
theorem mkR_new (n : Nat) : (⟨List.replicate n Clk.zero, List.replicate n Sf.none⟩ : PSt) = mkR n (fun _ => Clk.zero) (fun _ => 0) (fun _ => 0) := by
  unfold mkR
  congr 1
  · apply List.ext_getElem <;> simp
  · apply List.ext_getElem <;> simp [Sf.none, rowR]
theorem mkR_base (n : Nat) (told : Nat → Clk) (len cut : Nat → Nat) (i : Nat) : (mkR n told len cut).baseF i = if i < n then (cut i : Int) else 0 := by
  unfold PSt.baseF
  rw [mkR_len]
  by_cases h : i < n
  · rw [if_pos h, if_pos h, mkR_get _ _ _ _ h]
  · rw [if_neg h, if_neg h]
theorem mkR_lenF (n : Nat) (told : Nat → Clk) (len cut : Nat → Nat) (i : Nat) : (mkR n told len cut).lenF i = if i < n then (len i : Int) else 0 := by
  unfold PSt.lenF
  rw [mkR_len]
  by_cases h : i < n
  · rw [if_pos h, if_pos h, mkR_get _ _ _ _ h, rowR_len]
  · rw [if_neg h, if_neg h]
theorem mkR_told (n : Nat) (told : Nat → Clk) (len cut : Nat → Nat) (i : Nat) : (mkR n told len cut).told.getD i Clk.zero = if i < n then told i else Clk.zero := by
  by_cases h : i < n
  · rw [if_pos h]; exact range_getD _ _ _ _ h
  · rw [if_neg h]; simp [mkR, List.getD_eq_getElem?_getD, h]
end Go.Proofs.Ytkcpgdkchglhhaa
/- PostWaits, walked. No condition. -/
namespace Go.Proofs.Ytkcpgdkchglhhaa
open Go.RowKit
set_option linter.unusedSimpArgs false
set_option linter.unusedVariables false
theorem cfg_n {c : Cfg} (h : c.May) : (min (max c.n 0) 5).toNat = c.n.toNat := by have := h.n; omega
theorem post_NewR (c : Cfg) (h : c.May) (M : List Assn) : Fn Try.prog 10 #[.agg (Rep.cells c).toArray] M
    fun v L' => ∃ g : Nat, v = .pointer (some ⟨g, 0, none⟩) ∧ L' = PoA g c.w (mkR c.n.toNat (fun _ => Clk.zero) (fun _ => 0) (fun _ => 0)) :: M := by
  have h1 := post_NewA c M
  rw [cfg_n h, mkR_new] at h1
  exact h1
/-- How a post stands, told: the numbers of what is kept. -/
theorem post_SiteR (g : Nat) (most : Int) (n : Nat) (told : Nat → Clk) (len cut : Nat → Nat) (M : List Assn) (hn : n ≤ 5) (h : ∀ i, i < n → cut i ≤ len i ∧ len i ≤ 1000000) : Fn Try.prog 13 #[.pointer (some ⟨g, 0, none⟩)] (PoA g most (mkR n told len cut) :: M)
    fun v L' => ∃ s : Hs, v = .agg (Rep.cells s).toArray ∧ s = (mkR n told len cut).site ∧ L' = PoA g most (mkR n told len cut) :: M := fun F w0 w r hs =>
  (post_SiteA g most _ M (mkR_ok hn h) F w0 w r hs).mono fun e w' ⟨v, L', h1, h2, h3, h4, h5⟩ => ⟨v, L', h1, h2, h3, _, h4, rfl, h5⟩
theorem site_base (n : Nat) (told : Nat → Clk) (len cut : Nat → Nat) {i : Nat} (hi : i < n) (hn : n ≤ 5) : (mkR n told len cut).site.base.get i = cut i := by
  show (clkOf (mkR n told len cut).baseF).get i = _
  rw [clkOf_get _ _ (by omega), mkR_base, if_pos hi]
theorem site_len (n : Nat) (told : Nat → Clk) (len cut : Nat → Nat) {i : Nat} (hi : i < n) (hn : n ≤ 5) : (mkR n told len cut).site.len.get i = len i := by
  show (clkOf (mkR n told len cut).lenF).get i = _
  rw [clkOf_get _ _ (by omega), mkR_lenF, if_pos hi]
def S16 (n k : Nat) (T : Nat → Clk) (c : Nat) : PSt := mkR n T (put1 (fun _ => 0) 0 k) (put1 (fun _ => 0) 0 c)
theorem S16_fits {n k : Nat} {c : Nat} (hc : c ≤ k) (hk : k ≤ 1000000) : ∀ i, i < n → put1 (fun _ => 0) 0 c i ≤ put1 (fun _ => 0) 0 k i ∧ put1 (fun _ => 0) 0 k i ≤ 1000000 := fun i _ => by
  unfold put1; split
  · exact ⟨hc, hk⟩
  · exact ⟨Nat.le_refl _, Nat.zero_le _⟩
theorem S16_ack {n k : Nat} {T T' : Nat → Clk} {c c' r : Nat} {cl : Clk} (hr : r < n) (hT : ∀ i, i < n → T' i = if i = r then (T r).join cl else T i) (hc : c' = cutTo c (leastF n T' 0) k) : (S16 n k T c).ack r cl = (0, S16 n k T' c') := by
  unfold S16
  rw [mkR_ack _ _ _ _ _ hr]
  have e : ∀ i, i < n → put1 T r ((T r).join cl) i = T' i := fun i hi => (hT i hi).symm
  congr 1
  refine mkR_congr e (fun _ _ => rfl) fun i hi => ?_
  rw [leastF_congr e]
  unfold put1
  by_cases h0 : i = 0
  · subst h0; simp only [↓reduceIte]; exact hc.symm
  · simp only [h0, ↓reduceIte]; unfold cutTo; omega
theorem waits_ack (g : Nat) (most : Int) {n k : Nat} {T : Nat → Clk} (T' : Nat → Clk) {c : Nat} (c' : Nat) {r : Nat} {cl : Clk} (M : List Assn) (hn : n ≤ 5) (hck : c ≤ k) (hk : k ≤ 1000000) (hr : r < n) (hT : ∀ i, i < n → T' i = if i = r then (T r).join cl else T i) (hc : c' = cutTo c (leastF n T' 0) k) :
    Fn Try.prog 17 #[.pointer (some ⟨g, 0, none⟩), .int .i64 r, .agg (Rep.cells cl).toArray] (PoA g most (S16 n k T c) :: M) fun v L' => v = .int .i64 0 ∧ L' = PoA g most (S16 n k T' c') :: M := by
  have h := post_AckA g most (S16 n k T c) r cl M (mkR_ok hn (S16_fits hck hk))
  rw [S16_ack hr hT hc] at h
  exact h
theorem waits_push {most : Int} {n k : Nat} (hn : 0 < n) (hk : (k : Int) ≤ most) : (mkR n (fun _ => Clk.zero) (fun _ => 0) (fun _ => 0)).push most 0 (rowR 0 1 k) = ((k : Int), 0, S16 n k (fun _ => Clk.zero) 0) := by
  have h := mkR_push (most := most) n (fun _ => Clk.zero) (fun _ => 0) (fun _ => 0) (r := 0) (k := k) (a := 1) (f := k) hn (.inr (by simp)) (Nat.le_refl _) (by omega) (.inr (by simpa using hk))
  have hl : leastF n (fun _ => Clk.zero) 0 = 0 := leastF_eq (fun _ _ => Int.le_refl _) hn rfl
  rw [hl] at h
  refine h.trans ?_
  unfold S16 cutTo
  rw [show (max ((0 : Nat) : Int) (min 0 ((0 + k : Nat) : Int))).toNat = 0 by omega, Nat.zero_add]
theorem zero_join (cl : Clk) (h : 0 ≤ cl.a ∧ 0 ≤ cl.b ∧ 0 ≤ cl.c ∧ 0 ≤ cl.d ∧ 0 ≤ cl.e) : Clk.zero.join cl = cl := by
  obtain ⟨a, b, c, d, e⟩ := cl
  simp only [Clk.join, Clk.zero, Clk.mk.injEq] at *
  omega
theorem waits_pushF (g : Nat) (most : Int) {n k : Nat} (u : Value) (M : List Assn) (hn : 0 < n) (hn5 : n ≤ 5) (hk : (k : Int) ≤ most) (hk6 : k ≤ 1000000) (hu : RdT M u (rowR 0 1 k)) :
    Fn Try.prog 15 #[.pointer (some ⟨g, 0, none⟩), .int .i64 0, u] (PoA g most (mkR n (fun _ => Clk.zero) (fun _ => 0) (fun _ => 0)) :: M) fun v L' => v = .tuple #[.int .i64 k, .int .i64 0] ∧ L' = PoA g most (S16 n k (fun _ => Clk.zero) 0) :: M := by
  have h := post_PushA g most (mkR n (fun _ => Clk.zero) (fun _ => 0) (fun _ => 0)) 0 u (rowR 0 1 k) M (mkR_ok hn5 fun _ _ => ⟨Nat.le_refl _, Nat.zero_le _⟩) hu (by rw [rowR_len]; exact hk6) (fun e he => by
    obtain ⟨i, hi, rfl⟩ := rowR_mem he
    unfold I64 evR
    simp only
    omega)
  rw [waits_push hn hk] at h
  exact h
theorem waits_site (g : Nat) (most : Int) {n k : Nat} {T : Nat → Clk} {c : Nat} (M : List Assn) (hn0 : 0 < n) (hn : n ≤ 5) (hck : c ≤ k) (hk : k ≤ 1000000) :
    Fn Try.prog 13 #[.pointer (some ⟨g, 0, none⟩)] (PoA g most (S16 n k T c) :: M) fun v L' => ∃ s : Hs, v = .agg (Rep.cells s).toArray ∧ s.base.a = c ∧ s.len.a = k ∧ L' = PoA g most (S16 n k T c) :: M := by
  refine (post_SiteR g most n T (put1 (fun _ => 0) 0 k) (put1 (fun _ => 0) 0 c) M hn (S16_fits hck hk)).res ?_
  rintro v L' ⟨s, rfl, rfl, rfl⟩
  exact ⟨_, Sub.refl _, _, rfl, site_base (i := 0) n T _ _ hn0 hn, site_len (i := 0) n T _ _ hn0 hn, rfl⟩
def K5 (k : Nat) : Clk := ⟨(k : Int) + 5, 9, 9, 9, 9⟩
set_option maxRecDepth 20000 attribute [local irreducible] Ex ExL Fn thn inb rnd fin meet Tab Mix mxEnd Val Sats RdT Rd RowT Row Blk Sub Fac ResV RVal Evs subs subs3 Hid Capd
attribute [local irreducible] PoA S16 rowR
set_option maxHeartbeats 4000000 in
theorem postWaits_fn (c : Cfg) (who many : Int) (W : World) (hw : 0 ≤ who ∧ who ≤ 255) (hm : 0 ≤ many ∧ many ≤ 255) :
    Fn Try.prog 7 #[.agg (Rep.cells c).toArray, .int .u8 who, .int .u8 many] [Base W] fun v L' => v = .bool true ∧ L' = [Base W] := by
  have hM := fitC_may c
  refine Fn.of_ex Try.func7 rfl Try.ntmps7 rfl ?_
  (repeat' (first | refine ExL.val rJ rJ rJ rV ?_ | (first | refine Ex.seq ?_ | refine Ex.region ?_ | refine ExL.nil ?_ | refine thn_n ?_ | refine Ex.cond_t rJ ?_ | refine Ex.cond_f rJ ?_ | refine Ex.skip ?_ | refine Ex.block ?_ | refine Ex.exit ?_ | refine Ex.ret ?_ | refine thn_exit ?_ | refine thn_ret ?_ | refine inb_n ?_ | refine inb_hit rJ ?_ | refine inb_miss rJ ?_ | refine inb_ret ?_ | refine rnd_exit ?_ | refine rnd_ret ?_ | refine meet_ret ?_ | refine meet_exit ?_) | (apply exlGuard; first | refine ExL.gskip rJ rJ rJ rJ rJ rJ ?_ | refine ExL.gtake rJ rJ rJ rJ ?_ | refine ExL.gskipU rJ rJ rJ rJ ?_ | (refine ExL.gsplit rJ rJ rJ (fun h => ?_) (fun h => ?_) <;> try (exfalso; omega))) | (first | refine st_new_ rJ rE (fun g => ?_) | refine st_boxA rJ rJ (fun g => ?_) | refine st_box1 rJ rE rN (fun g => ?_) | (apply exlStore; first | refine st_store1_ _ rJ rK rE rN rJ rJ rE rE ?_ | refine st_storeW_ _ rJ rK rJ rC rJ rJ rJ rE ?_ | refine st_storeR _ rJ rK rJ rE rJ rJ rE ?_ | refine st_storeA_ _ rJ rK rJ rC rJ rJ rJ rE rE ?_ | refine st_storeB _ rJ rJ rO rO rK rJ rO ?_ | refine st_storeG _ rJ rK rE rN rJ rO (fun cs hcs => ?_)) | refine st_slice0 rJ rJ rJ rJ (fun g => ?_) | refine st_slice1T rJ rJ rJ rJ (fun g => ?_) | refine st_makeT rJ rJ rJ rJ rE rJ rO rO (fun v o => ?_) | (apply exlCopy; first | refine st_copyW _ rJ rE rK rE rD rJ rE rJ (fun zs hzs => ?_) | refine st_copyS _ rJ rJ rK rE rD rJ rE rJ rO rO (fun zs hzs => ?_)) | refine st_sliceB rJ rJ rJ rJ rJ rJ rJ rL rE rE rJ (fun g => ?_) | refine st_slice1I rJ rJ rJ rJ rJ rJ (fun g => ?_) | refine st_slice1B rJ rJ rJ rJ rJ rJ rO rO (fun g => ?_) | refine st_slice1S rJ rJ rJ rJ rJ rJ (fun g => ?_) | refine st_slice2B rJ rJ rJ rJ rJ rJ rJ rO rO rO rO (fun g => ?_) | (apply exlConv; first | refine st_bytes rJ rJ rJ rJ rJ rO (fun v o => ?_) | refine st_mark _ rJ rJ rK rJ rJ rJ ?_) | refine st_clear _ (0 : UInt8) rJ rK rJ rJ rJ rJ rJ rO ?_ | refine st_clearT _ rJ rK rO rJ rJ rO rE ?_ | (apply exlAppend; first | refine st_app0 rJ rJ rE rD rJ rE rJ rE rJ rJ rJ rO (fun v o => ?_) | refine st_app _ rJ rE rK rE rD rJ rE rJ rE rJ rJ rJ rO (fun v o => ?_) | refine st_shift _ rJ rJ rJ rK rO rJ rJ rJ rO rO rE ?_)) | (refine Ex.cond_d rJ (fun h => ?_) (fun h => ?_) <;> try (exfalso; omega))))
  (refine st_callIs [] rJ Try.call8 rJ rJ (shown16_fn _) ?_; rintro _ _ ⟨rfl, rfl⟩)
  (repeat' (first | refine ExL.val rJ rJ rJ rV ?_ | (first | refine Ex.seq ?_ | refine Ex.region ?_ | refine ExL.nil ?_ | refine thn_n ?_ | refine Ex.cond_t rJ ?_ | refine Ex.cond_f rJ ?_ | refine Ex.skip ?_ | refine Ex.block ?_ | refine Ex.exit ?_ | refine Ex.ret ?_ | refine thn_exit ?_ | refine thn_ret ?_ | refine inb_n ?_ | refine inb_hit rJ ?_ | refine inb_miss rJ ?_ | refine inb_ret ?_ | refine rnd_exit ?_ | refine rnd_ret ?_ | refine meet_ret ?_ | refine meet_exit ?_) | (apply exlGuard; first | refine ExL.gskip rJ rJ rJ rJ rJ rJ ?_ | refine ExL.gtake rJ rJ rJ rJ ?_ | refine ExL.gskipU rJ rJ rJ rJ ?_ | (refine ExL.gsplit rJ rJ rJ (fun h => ?_) (fun h => ?_) <;> try (exfalso; omega))) | (first | refine st_new_ rJ rE (fun g => ?_) | refine st_boxA rJ rJ (fun g => ?_) | refine st_box1 rJ rE rN (fun g => ?_) | (apply exlStore; first | refine st_store1_ _ rJ rK rE rN rJ rJ rE rE ?_ | refine st_storeW_ _ rJ rK rJ rC rJ rJ rJ rE ?_ | refine st_storeR _ rJ rK rJ rE rJ rJ rE ?_ | refine st_storeA_ _ rJ rK rJ rC rJ rJ rJ rE rE ?_ | refine st_storeB _ rJ rJ rO rO rK rJ rO ?_ | refine st_storeG _ rJ rK rE rN rJ rO (fun cs hcs => ?_)) | refine st_slice0 rJ rJ rJ rJ (fun g => ?_) | refine st_slice1T rJ rJ rJ rJ (fun g => ?_) | refine st_makeT rJ rJ rJ rJ rE rJ rO rO (fun v o => ?_) | (apply exlCopy; first | refine st_copyW _ rJ rE rK rE rD rJ rE rJ (fun zs hzs => ?_) | refine st_copyS _ rJ rJ rK rE rD rJ rE rJ rO rO (fun zs hzs => ?_)) | refine st_sliceB rJ rJ rJ rJ rJ rJ rJ rL rE rE rJ (fun g => ?_) | refine st_slice1I rJ rJ rJ rJ rJ rJ (fun g => ?_) | refine st_slice1B rJ rJ rJ rJ rJ rJ rO rO (fun g => ?_) | refine st_slice1S rJ rJ rJ rJ rJ rJ (fun g => ?_) | refine st_slice2B rJ rJ rJ rJ rJ rJ rJ rO rO rO rO (fun g => ?_) | (apply exlConv; first | refine st_bytes rJ rJ rJ rJ rJ rO (fun v o => ?_) | refine st_mark _ rJ rJ rK rJ rJ rJ ?_) | refine st_clear _ (0 : UInt8) rJ rK rJ rJ rJ rJ rJ rO ?_ | refine st_clearT _ rJ rK rO rJ rJ rO rE ?_ | (apply exlAppend; first | refine st_app0 rJ rJ rE rD rJ rE rJ rE rJ rJ rJ rO (fun v o => ?_) | refine st_app _ rJ rE rK rE rD rJ rE rJ rE rJ rJ rJ rO (fun v o => ?_) | refine st_shift _ rJ rJ rJ rK rO rJ rJ rJ rO rO rE ?_)) | (refine Ex.cond_d rJ (fun h => ?_) (fun h => ?_) <;> try (exfalso; omega))))
  (refine st_callIs [] rJ Try.call9 rJ rJ (fitC_F c _) ?_; rintro _ _ ⟨rfl, rfl⟩)
  (repeat' (first | refine ExL.val rJ rJ rJ rV ?_ | (first | refine Ex.seq ?_ | refine Ex.region ?_ | refine ExL.nil ?_ | refine thn_n ?_ | refine Ex.cond_t rJ ?_ | refine Ex.cond_f rJ ?_ | refine Ex.skip ?_ | refine Ex.block ?_ | refine Ex.exit ?_ | refine Ex.ret ?_ | refine thn_exit ?_ | refine thn_ret ?_ | refine inb_n ?_ | refine inb_hit rJ ?_ | refine inb_miss rJ ?_ | refine inb_ret ?_ | refine rnd_exit ?_ | refine rnd_ret ?_ | refine meet_ret ?_ | refine meet_exit ?_) | (apply exlGuard; first | refine ExL.gskip rJ rJ rJ rJ rJ rJ ?_ | refine ExL.gtake rJ rJ rJ rJ ?_ | refine ExL.gskipU rJ rJ rJ rJ ?_ | (refine ExL.gsplit rJ rJ rJ (fun h => ?_) (fun h => ?_) <;> try (exfalso; omega))) | (first | refine st_new_ rJ rE (fun g => ?_) | refine st_boxA rJ rJ (fun g => ?_) | refine st_box1 rJ rE rN (fun g => ?_) | (apply exlStore; first | refine st_store1_ _ rJ rK rE rN rJ rJ rE rE ?_ | refine st_storeW_ _ rJ rK rJ rC rJ rJ rJ rE ?_ | refine st_storeR _ rJ rK rJ rE rJ rJ rE ?_ | refine st_storeA_ _ rJ rK rJ rC rJ rJ rJ rE rE ?_ | refine st_storeB _ rJ rJ rO rO rK rJ rO ?_ | refine st_storeG _ rJ rK rE rN rJ rO (fun cs hcs => ?_)) | refine st_slice0 rJ rJ rJ rJ (fun g => ?_) | refine st_slice1T rJ rJ rJ rJ (fun g => ?_) | refine st_makeT rJ rJ rJ rJ rE rJ rO rO (fun v o => ?_) | (apply exlCopy; first | refine st_copyW _ rJ rE rK rE rD rJ rE rJ (fun zs hzs => ?_) | refine st_copyS _ rJ rJ rK rE rD rJ rE rJ rO rO (fun zs hzs => ?_)) | refine st_sliceB rJ rJ rJ rJ rJ rJ rJ rL rE rE rJ (fun g => ?_) | refine st_slice1I rJ rJ rJ rJ rJ rJ (fun g => ?_) | refine st_slice1B rJ rJ rJ rJ rJ rJ rO rO (fun g => ?_) | refine st_slice1S rJ rJ rJ rJ rJ rJ (fun g => ?_) | refine st_slice2B rJ rJ rJ rJ rJ rJ rJ rO rO rO rO (fun g => ?_) | (apply exlConv; first | refine st_bytes rJ rJ rJ rJ rJ rO (fun v o => ?_) | refine st_mark _ rJ rJ rK rJ rJ rJ ?_) | refine st_clear _ (0 : UInt8) rJ rK rJ rJ rJ rJ rJ rO ?_ | refine st_clearT _ rJ rK rO rJ rJ rO rE ?_ | (apply exlAppend; first | refine st_app0 rJ rJ rE rD rJ rE rJ rE rJ rJ rJ rO (fun v o => ?_) | refine st_app _ rJ rE rK rE rD rJ rE rJ rE rJ rJ rJ rO (fun v o => ?_) | refine st_shift _ rJ rJ rJ rK rO rJ rJ rJ rO rO rE ?_)) | (refine Ex.cond_d rJ (fun h => ?_) (fun h => ?_) <;> try (exfalso; omega))))
  generalize hd : fitC c = d at hM
  clear hd
  obtain ⟨n, hn⟩ : ∃ n : Nat, (n : Int) = d.n := ⟨d.n.toNat, by have := hM.n; omega⟩
  obtain ⟨k, hk⟩ : ∃ k : Nat, (k : Int) = 1 + many % d.w := ⟨(1 + many % d.w).toNat, by have := Int.emod_nonneg many (show d.w ≠ 0 by have := hM.w; omega); omega⟩
  obtain ⟨late, hlate⟩ : ∃ l : Nat, (l : Int) = who % d.n := ⟨(who % d.n).toNat, by have := Int.emod_nonneg who (show d.n ≠ 0 by have := hM.n; omega); omega⟩
  have hdn := hM.n
  have hdw := hM.w
  have hlt : late < n := by have := Int.emod_lt_of_pos who (show 0 < d.n by omega); omega
  have hkw : (k : Int) ≤ d.w := by have := Int.emod_lt_of_pos many (show 0 < d.w by omega); omega
  have hk1 : 1 ≤ k := by have := Int.emod_nonneg many (show d.w ≠ 0 by omega); omega
  have hnn : d.n.toNat = n := by omega
  have hnew := post_NewR d hM
  rw [hnn] at hnew
  refine st_callIs [] rJ Try.call10 rE rJ (hnew _) ?_
  rintro _ _ ⟨g0, rfl, rfl⟩
  (repeat' (first | refine ExL.val rJ rJ rJ rV ?_ | (first | refine Ex.seq ?_ | refine Ex.region ?_ | refine ExL.nil ?_ | refine thn_n ?_ | refine Ex.cond_t rJ ?_ | refine Ex.cond_f rJ ?_ | refine Ex.skip ?_ | refine Ex.block ?_ | refine Ex.exit ?_ | refine Ex.ret ?_ | refine thn_exit ?_ | refine thn_ret ?_ | refine inb_n ?_ | refine inb_hit rJ ?_ | refine inb_miss rJ ?_ | refine inb_ret ?_ | refine rnd_exit ?_ | refine rnd_ret ?_ | refine meet_ret ?_ | refine meet_exit ?_) | (apply exlGuard; first | refine ExL.gskip rJ rJ rJ rJ rJ rJ ?_ | refine ExL.gtake rJ rJ rJ rJ ?_ | refine ExL.gskipU rJ rJ rJ rJ ?_ | (refine ExL.gsplit rJ rJ rJ (fun h => ?_) (fun h => ?_) <;> try (exfalso; omega))) | (first | refine st_new_ rJ rE (fun g => ?_) | refine st_boxA rJ rJ (fun g => ?_) | refine st_box1 rJ rE rN (fun g => ?_) | (apply exlStore; first | refine st_store1_ _ rJ rK rE rN rJ rJ rE rE ?_ | refine st_storeW_ _ rJ rK rJ rC rJ rJ rJ rE ?_ | refine st_storeR _ rJ rK rJ rE rJ rJ rE ?_ | refine st_storeA_ _ rJ rK rJ rC rJ rJ rJ rE rE ?_ | refine st_storeB _ rJ rJ rO rO rK rJ rO ?_ | refine st_storeG _ rJ rK rE rN rJ rO (fun cs hcs => ?_)) | refine st_slice0 rJ rJ rJ rJ (fun g => ?_) | refine st_slice1T rJ rJ rJ rJ (fun g => ?_) | refine st_makeT rJ rJ rJ rJ rE rJ rO rO (fun v o => ?_) | (apply exlCopy; first | refine st_copyW _ rJ rE rK rE rD rJ rE rJ (fun zs hzs => ?_) | refine st_copyS _ rJ rJ rK rE rD rJ rE rJ rO rO (fun zs hzs => ?_)) | refine st_sliceB rJ rJ rJ rJ rJ rJ rJ rL rE rE rJ (fun g => ?_) | refine st_slice1I rJ rJ rJ rJ rJ rJ (fun g => ?_) | refine st_slice1B rJ rJ rJ rJ rJ rJ rO rO (fun g => ?_) | refine st_slice1S rJ rJ rJ rJ rJ rJ (fun g => ?_) | refine st_slice2B rJ rJ rJ rJ rJ rJ rJ rO rO rO rO (fun g => ?_) | (apply exlConv; first | refine st_bytes rJ rJ rJ rJ rJ rO (fun v o => ?_) | refine st_mark _ rJ rJ rK rJ rJ rJ ?_) | refine st_clear _ (0 : UInt8) rJ rK rJ rJ rJ rJ rJ rO ?_ | refine st_clearT _ rJ rK rO rJ rJ rO rE ?_ | (apply exlAppend; first | refine st_app0 rJ rJ rE rD rJ rE rJ rE rJ rJ rJ rO (fun v o => ?_) | refine st_app _ rJ rE rK rE rD rJ rE rJ rE rJ rJ rJ rO (fun v o => ?_) | refine st_shift _ rJ rJ rJ rK rO rJ rJ rJ rO rO rE ?_)) | (refine Ex.cond_d rJ (fun h => ?_) (fun h => ?_) <;> try (exfalso; omega))))
  rw [← hk, ← hlate]
  refine ExL.sub (L' := PoA g0 d.w (mkR n (fun x => Clk.zero) (fun x => 0) fun x => 0) :: Blk g 23 (Rep.cells d) :: [Base W]) ?_ rB
  have hrow := row_F 0 1 (k : Int) (PoA g0 d.w (mkR n (fun x => Clk.zero) (fun x => 0) fun x => 0) :: Blk g 23 (Rep.cells d) :: [Base W]) (by omega) (by omega)
  rw [Int.toNat_natCast] at hrow
  refine st_callIs [] rJ Try.call16 rE rJ (hrow) ?_
  rintro u _ ⟨ou, rfl⟩
  have hpush := waits_pushF g0 d.w u (Evs_ u (rowR 0 1 k) :: Blk g 23 (Rep.cells d) :: [Base W]) (show 0 < n by omega) (show n ≤ 5 by omega) hkw (by omega) rD
  refine st_callIs [1] rJ Try.call15 rE rJ (hpush) ?_
  rintro _ _ ⟨rfl, rfl⟩
  (repeat' (first | refine ExL.val rJ rJ rJ rV ?_ | (first | refine Ex.seq ?_ | refine Ex.region ?_ | refine ExL.nil ?_ | refine thn_n ?_ | refine Ex.cond_t rJ ?_ | refine Ex.cond_f rJ ?_ | refine Ex.skip ?_ | refine Ex.block ?_ | refine Ex.exit ?_ | refine Ex.ret ?_ | refine thn_exit ?_ | refine thn_ret ?_ | refine inb_n ?_ | refine inb_hit rJ ?_ | refine inb_miss rJ ?_ | refine inb_ret ?_ | refine rnd_exit ?_ | refine rnd_ret ?_ | refine meet_ret ?_ | refine meet_exit ?_) | (apply exlGuard; first | refine ExL.gskip rJ rJ rJ rJ rJ rJ ?_ | refine ExL.gtake rJ rJ rJ rJ ?_ | refine ExL.gskipU rJ rJ rJ rJ ?_ | (refine ExL.gsplit rJ rJ rJ (fun h => ?_) (fun h => ?_) <;> try (exfalso; omega))) | (first | refine st_new_ rJ rE (fun g => ?_) | refine st_boxA rJ rJ (fun g => ?_) | refine st_box1 rJ rE rN (fun g => ?_) | (apply exlStore; first | refine st_store1_ _ rJ rK rE rN rJ rJ rE rE ?_ | refine st_storeW_ _ rJ rK rJ rC rJ rJ rJ rE ?_ | refine st_storeR _ rJ rK rJ rE rJ rJ rE ?_ | refine st_storeA_ _ rJ rK rJ rC rJ rJ rJ rE rE ?_ | refine st_storeB _ rJ rJ rO rO rK rJ rO ?_ | refine st_storeG _ rJ rK rE rN rJ rO (fun cs hcs => ?_)) | refine st_slice0 rJ rJ rJ rJ (fun g => ?_) | refine st_slice1T rJ rJ rJ rJ (fun g => ?_) | refine st_makeT rJ rJ rJ rJ rE rJ rO rO (fun v o => ?_) | (apply exlCopy; first | refine st_copyW _ rJ rE rK rE rD rJ rE rJ (fun zs hzs => ?_) | refine st_copyS _ rJ rJ rK rE rD rJ rE rJ rO rO (fun zs hzs => ?_)) | refine st_sliceB rJ rJ rJ rJ rJ rJ rJ rL rE rE rJ (fun g => ?_) | refine st_slice1I rJ rJ rJ rJ rJ rJ (fun g => ?_) | refine st_slice1B rJ rJ rJ rJ rJ rJ rO rO (fun g => ?_) | refine st_slice1S rJ rJ rJ rJ rJ rJ (fun g => ?_) | refine st_slice2B rJ rJ rJ rJ rJ rJ rJ rO rO rO rO (fun g => ?_) | (apply exlConv; first | refine st_bytes rJ rJ rJ rJ rJ rO (fun v o => ?_) | refine st_mark _ rJ rJ rK rJ rJ rJ ?_) | refine st_clear _ (0 : UInt8) rJ rK rJ rJ rJ rJ rJ rO ?_ | refine st_clearT _ rJ rK rO rJ rJ rO rE ?_ | (apply exlAppend; first | refine st_app0 rJ rJ rE rD rJ rE rJ rE rJ rJ rJ rO (fun v o => ?_) | refine st_app _ rJ rE rK rE rD rJ rE rJ rE rJ rJ rJ rO (fun v o => ?_) | refine st_shift _ rJ rJ rJ rK rO rJ rJ rJ rO rO rE ?_)) | (refine Ex.cond_d rJ (fun h => ?_) (fun h => ?_) <;> try (exfalso; omega))))
  refine Ex.sub (L' := PoA g0 d.w (S16 n k (fun _ => Clk.zero) 0) :: Blk g 23 (Rep.cells d) :: [Base W]) ?_ rB
  refine Ex.loop [9, 10, 11, 12, 13, 14] (fun m vs L' => ∃ (j : Nat) (T : Nat → Clk), j ≤ n ∧ m = n - j ∧ (∀ i, T i = if i < j ∧ i ≠ late then K5 k else Clk.zero) ∧ vs = [.pointer (some ⟨g0, 0, none⟩), .int .i64 k, .int .i64 late, .int .i64 k, .int .i64 0, .int .i64 j] ∧ L' = PoA g0 d.w (S16 n k T 0) :: Blk g 23 (Rep.cells d) :: [Base W]) n ⟨0, fun _ => Clk.zero, by omega, by omega, fun i => by rw [if_neg (by omega)], rfl, rfl⟩ ?_
  rintro m vs g1 L' ⟨j, T, hj, rfl, hT, rfl, rfl⟩
  by_cases hjn : j < n
  · by_cases hjl : j = late
    · subst hjl
      (repeat' (first | refine ExL.val rJ rJ rJ rV ?_ | (first | refine Ex.seq ?_ | refine Ex.region ?_ | refine ExL.nil ?_ | refine thn_n ?_ | refine Ex.cond_t rJ ?_ | refine Ex.cond_f rJ ?_ | refine Ex.skip ?_ | refine Ex.block ?_ | refine Ex.exit ?_ | refine Ex.ret ?_ | refine thn_exit ?_ | refine thn_ret ?_ | refine inb_n ?_ | refine inb_hit rJ ?_ | refine inb_miss rJ ?_ | refine inb_ret ?_ | refine rnd_exit ?_ | refine rnd_ret ?_ | refine meet_ret ?_ | refine meet_exit ?_) | (apply exlGuard; first | refine ExL.gskip rJ rJ rJ rJ rJ rJ ?_ | refine ExL.gtake rJ rJ rJ rJ ?_ | refine ExL.gskipU rJ rJ rJ rJ ?_ | (refine ExL.gsplit rJ rJ rJ (fun h => ?_) (fun h => ?_) <;> try (exfalso; omega))) | (first | refine st_new_ rJ rE (fun g => ?_) | refine st_boxA rJ rJ (fun g => ?_) | refine st_box1 rJ rE rN (fun g => ?_) | (apply exlStore; first | refine st_store1_ _ rJ rK rE rN rJ rJ rE rE ?_ | refine st_storeW_ _ rJ rK rJ rC rJ rJ rJ rE ?_ | refine st_storeR _ rJ rK rJ rE rJ rJ rE ?_ | refine st_storeA_ _ rJ rK rJ rC rJ rJ rJ rE rE ?_ | refine st_storeB _ rJ rJ rO rO rK rJ rO ?_ | refine st_storeG _ rJ rK rE rN rJ rO (fun cs hcs => ?_)) | refine st_slice0 rJ rJ rJ rJ (fun g => ?_) | refine st_slice1T rJ rJ rJ rJ (fun g => ?_) | refine st_makeT rJ rJ rJ rJ rE rJ rO rO (fun v o => ?_) | (apply exlCopy; first | refine st_copyW _ rJ rE rK rE rD rJ rE rJ (fun zs hzs => ?_) | refine st_copyS _ rJ rJ rK rE rD rJ rE rJ rO rO (fun zs hzs => ?_)) | refine st_sliceB rJ rJ rJ rJ rJ rJ rJ rL rE rE rJ (fun g => ?_) | refine st_slice1I rJ rJ rJ rJ rJ rJ (fun g => ?_) | refine st_slice1B rJ rJ rJ rJ rJ rJ rO rO (fun g => ?_) | refine st_slice1S rJ rJ rJ rJ rJ rJ (fun g => ?_) | refine st_slice2B rJ rJ rJ rJ rJ rJ rJ rO rO rO rO (fun g => ?_) | (apply exlConv; first | refine st_bytes rJ rJ rJ rJ rJ rO (fun v o => ?_) | refine st_mark _ rJ rJ rK rJ rJ rJ ?_) | refine st_clear _ (0 : UInt8) rJ rK rJ rJ rJ rJ rJ rO ?_ | refine st_clearT _ rJ rK rO rJ rJ rO rE ?_ | (apply exlAppend; first | refine st_app0 rJ rJ rE rD rJ rE rJ rE rJ rJ rJ rO (fun v o => ?_) | refine st_app _ rJ rE rK rE rD rJ rE rJ rE rJ rJ rJ rO (fun v o => ?_) | refine st_shift _ rJ rJ rJ rK rO rJ rJ rJ rO rO rE ?_)) | (refine Ex.cond_d rJ (fun h => ?_) (fun h => ?_) <;> try (exfalso; omega))))
      exact rnd_n ⟨n - (j + 1), _, by omega, rB, j + 1, T, by omega, rfl, fun i => by
        rw [hT]
        by_cases h : i < j ∧ i ≠ j
        · rw [if_pos h, if_pos ⟨by omega, h.2⟩]
        · rw [if_neg h, if_neg (by omega)], lcons rfl (lcons rfl (lcons rfl (lcons rfl (lcons rfl (lcons (vint (by omega)) rfl))))), rfl⟩
    · have hjl2 : (j : Int) ≠ (late : Int) := by omega
      (repeat' (first | refine ExL.val rJ rJ rJ rV ?_ | (first | refine Ex.seq ?_ | refine Ex.region ?_ | refine ExL.nil ?_ | refine thn_n ?_ | refine Ex.cond_t rJ ?_ | refine Ex.cond_f rJ ?_ | refine Ex.skip ?_ | refine Ex.block ?_ | refine Ex.exit ?_ | refine Ex.ret ?_ | refine thn_exit ?_ | refine thn_ret ?_ | refine inb_n ?_ | refine inb_hit rJ ?_ | refine inb_miss rJ ?_ | refine inb_ret ?_ | refine rnd_exit ?_ | refine rnd_ret ?_ | refine meet_ret ?_ | refine meet_exit ?_) | (apply exlGuard; first | refine ExL.gskip rJ rJ rJ rJ rJ rJ ?_ | refine ExL.gtake rJ rJ rJ rJ ?_ | refine ExL.gskipU rJ rJ rJ rJ ?_ | (refine ExL.gsplit rJ rJ rJ (fun h => ?_) (fun h => ?_) <;> try (exfalso; omega))) | (first | refine st_new_ rJ rE (fun g => ?_) | refine st_boxA rJ rJ (fun g => ?_) | refine st_box1 rJ rE rN (fun g => ?_) | (apply exlStore; first | refine st_store1_ _ rJ rK rE rN rJ rJ rE rE ?_ | refine st_storeW_ _ rJ rK rJ rC rJ rJ rJ rE ?_ | refine st_storeR _ rJ rK rJ rE rJ rJ rE ?_ | refine st_storeA_ _ rJ rK rJ rC rJ rJ rJ rE rE ?_ | refine st_storeB _ rJ rJ rO rO rK rJ rO ?_ | refine st_storeG _ rJ rK rE rN rJ rO (fun cs hcs => ?_)) | refine st_slice0 rJ rJ rJ rJ (fun g => ?_) | refine st_slice1T rJ rJ rJ rJ (fun g => ?_) | refine st_makeT rJ rJ rJ rJ rE rJ rO rO (fun v o => ?_) | (apply exlCopy; first | refine st_copyW _ rJ rE rK rE rD rJ rE rJ (fun zs hzs => ?_) | refine st_copyS _ rJ rJ rK rE rD rJ rE rJ rO rO (fun zs hzs => ?_)) | refine st_sliceB rJ rJ rJ rJ rJ rJ rJ rL rE rE rJ (fun g => ?_) | refine st_slice1I rJ rJ rJ rJ rJ rJ (fun g => ?_) | refine st_slice1B rJ rJ rJ rJ rJ rJ rO rO (fun g => ?_) | refine st_slice1S rJ rJ rJ rJ rJ rJ (fun g => ?_) | refine st_slice2B rJ rJ rJ rJ rJ rJ rJ rO rO rO rO (fun g => ?_) | (apply exlConv; first | refine st_bytes rJ rJ rJ rJ rJ rO (fun v o => ?_) | refine st_mark _ rJ rJ rK rJ rJ rJ ?_) | refine st_clear _ (0 : UInt8) rJ rK rJ rJ rJ rJ rJ rO ?_ | refine st_clearT _ rJ rK rO rJ rJ rO rE ?_ | (apply exlAppend; first | refine st_app0 rJ rJ rE rD rJ rE rJ rE rJ rJ rJ rO (fun v o => ?_) | refine st_app _ rJ rE rK rE rD rJ rE rJ rE rJ rJ rJ rO (fun v o => ?_) | refine st_shift _ rJ rJ rJ rK rO rJ rJ rJ rO rO rE ?_)) | (refine Ex.cond_d rJ (fun h => ?_) (fun h => ?_) <;> try (exfalso; omega))))
      have hack := waits_ack g0 d.w (n := n) (k := k) (T := T) (fun i => if i < j + 1 ∧ i ≠ late then K5 k else Clk.zero) (c := 0) 0 (r := j) (cl := K5 k) (Blk g 23 (Rep.cells d) :: [Base W]) (by omega) (by omega) (by omega) hjn (fun i hi => by
        simp only [hT]
        by_cases h : i = j
        · subst h
          rw [if_pos rfl, if_pos ⟨by omega, hjl⟩, if_neg (by omega), zero_join _ (by unfold K5; simp only; omega)]
        · rw [if_neg h]
          by_cases h2 : i < j ∧ i ≠ late
          · rw [if_pos h2, if_pos ⟨by omega, h2.2⟩]
          · rw [if_neg h2, if_neg (by omega)]) (by
        have h1 := leastF_le (told := fun i => if i < j + 1 ∧ i ≠ late then K5 k else Clk.zero) (i := 0) hlt
        simp only [if_neg (show ¬ (late < j + 1 ∧ late ≠ late) by omega)] at h1
        rw [show Clk.zero.get 0 = 0 from rfl] at h1
        unfold cutTo
        omega)
      refine st_callIs [] rJ Try.call17 rE rJ (hack) ?_
      rintro _ _ ⟨rfl, rfl⟩
      (repeat' (first | refine ExL.val rJ rJ rJ rV ?_ | (first | refine Ex.seq ?_ | refine Ex.region ?_ | refine ExL.nil ?_ | refine thn_n ?_ | refine Ex.cond_t rJ ?_ | refine Ex.cond_f rJ ?_ | refine Ex.skip ?_ | refine Ex.block ?_ | refine Ex.exit ?_ | refine Ex.ret ?_ | refine thn_exit ?_ | refine thn_ret ?_ | refine inb_n ?_ | refine inb_hit rJ ?_ | refine inb_miss rJ ?_ | refine inb_ret ?_ | refine rnd_exit ?_ | refine rnd_ret ?_ | refine meet_ret ?_ | refine meet_exit ?_) | (apply exlGuard; first | refine ExL.gskip rJ rJ rJ rJ rJ rJ ?_ | refine ExL.gtake rJ rJ rJ rJ ?_ | refine ExL.gskipU rJ rJ rJ rJ ?_ | (refine ExL.gsplit rJ rJ rJ (fun h => ?_) (fun h => ?_) <;> try (exfalso; omega))) | (first | refine st_new_ rJ rE (fun g => ?_) | refine st_boxA rJ rJ (fun g => ?_) | refine st_box1 rJ rE rN (fun g => ?_) | (apply exlStore; first | refine st_store1_ _ rJ rK rE rN rJ rJ rE rE ?_ | refine st_storeW_ _ rJ rK rJ rC rJ rJ rJ rE ?_ | refine st_storeR _ rJ rK rJ rE rJ rJ rE ?_ | refine st_storeA_ _ rJ rK rJ rC rJ rJ rJ rE rE ?_ | refine st_storeB _ rJ rJ rO rO rK rJ rO ?_ | refine st_storeG _ rJ rK rE rN rJ rO (fun cs hcs => ?_)) | refine st_slice0 rJ rJ rJ rJ (fun g => ?_) | refine st_slice1T rJ rJ rJ rJ (fun g => ?_) | refine st_makeT rJ rJ rJ rJ rE rJ rO rO (fun v o => ?_) | (apply exlCopy; first | refine st_copyW _ rJ rE rK rE rD rJ rE rJ (fun zs hzs => ?_) | refine st_copyS _ rJ rJ rK rE rD rJ rE rJ rO rO (fun zs hzs => ?_)) | refine st_sliceB rJ rJ rJ rJ rJ rJ rJ rL rE rE rJ (fun g => ?_) | refine st_slice1I rJ rJ rJ rJ rJ rJ (fun g => ?_) | refine st_slice1B rJ rJ rJ rJ rJ rJ rO rO (fun g => ?_) | refine st_slice1S rJ rJ rJ rJ rJ rJ (fun g => ?_) | refine st_slice2B rJ rJ rJ rJ rJ rJ rJ rO rO rO rO (fun g => ?_) | (apply exlConv; first | refine st_bytes rJ rJ rJ rJ rJ rO (fun v o => ?_) | refine st_mark _ rJ rJ rK rJ rJ rJ ?_) | refine st_clear _ (0 : UInt8) rJ rK rJ rJ rJ rJ rJ rO ?_ | refine st_clearT _ rJ rK rO rJ rJ rO rE ?_ | (apply exlAppend; first | refine st_app0 rJ rJ rE rD rJ rE rJ rE rJ rJ rJ rO (fun v o => ?_) | refine st_app _ rJ rE rK rE rD rJ rE rJ rE rJ rJ rJ rO (fun v o => ?_) | refine st_shift _ rJ rJ rJ rK rO rJ rJ rJ rO rO rE ?_)) | (refine Ex.cond_d rJ (fun h => ?_) (fun h => ?_) <;> try (exfalso; omega))))
      exact rnd_n ⟨n - (j + 1), _, by omega, rB, j + 1, _, by omega, rfl, fun i => rfl, lcons rfl (lcons rfl (lcons rfl (lcons rfl (lcons rfl (lcons (vint (by omega)) rfl))))), rfl⟩
  · obtain rfl : j = n := by omega
    clear hnew hrow hpush hjn hj hnn
    have hcl0 : ∀ cl : Clk, 0 ≤ cl.a → cl.b = 0 → cl.c = 0 → cl.d = 0 → cl.e = 0 → Clk.zero.join cl = cl := fun cl h1 h2 h3 h4 h5 => zero_join cl (by omega)
    (repeat' (first | refine ExL.val rJ rJ rJ rV ?_ | (first | refine Ex.seq ?_ | refine Ex.region ?_ | refine ExL.nil ?_ | refine thn_n ?_ | refine Ex.cond_t rJ ?_ | refine Ex.cond_f rJ ?_ | refine Ex.skip ?_ | refine Ex.block ?_ | refine Ex.exit ?_ | refine Ex.ret ?_ | refine thn_exit ?_ | refine thn_ret ?_ | refine inb_n ?_ | refine inb_hit rJ ?_ | refine inb_miss rJ ?_ | refine inb_ret ?_ | refine rnd_exit ?_ | refine rnd_ret ?_ | refine meet_ret ?_ | refine meet_exit ?_) | (apply exlGuard; first | refine ExL.gskip rJ rJ rJ rJ rJ rJ ?_ | refine ExL.gtake rJ rJ rJ rJ ?_ | refine ExL.gskipU rJ rJ rJ rJ ?_ | (refine ExL.gsplit rJ rJ rJ (fun h => ?_) (fun h => ?_) <;> try (exfalso; omega))) | (first | refine st_new_ rJ rE (fun g => ?_) | refine st_boxA rJ rJ (fun g => ?_) | refine st_box1 rJ rE rN (fun g => ?_) | (apply exlStore; first | refine st_store1_ _ rJ rK rE rN rJ rJ rE rE ?_ | refine st_storeW_ _ rJ rK rJ rC rJ rJ rJ rE ?_ | refine st_storeR _ rJ rK rJ rE rJ rJ rE ?_ | refine st_storeA_ _ rJ rK rJ rC rJ rJ rJ rE rE ?_ | refine st_storeB _ rJ rJ rO rO rK rJ rO ?_ | refine st_storeG _ rJ rK rE rN rJ rO (fun cs hcs => ?_)) | refine st_slice0 rJ rJ rJ rJ (fun g => ?_) | refine st_slice1T rJ rJ rJ rJ (fun g => ?_) | refine st_makeT rJ rJ rJ rJ rE rJ rO rO (fun v o => ?_) | (apply exlCopy; first | refine st_copyW _ rJ rE rK rE rD rJ rE rJ (fun zs hzs => ?_) | refine st_copyS _ rJ rJ rK rE rD rJ rE rJ rO rO (fun zs hzs => ?_)) | refine st_sliceB rJ rJ rJ rJ rJ rJ rJ rL rE rE rJ (fun g => ?_) | refine st_slice1I rJ rJ rJ rJ rJ rJ (fun g => ?_) | refine st_slice1B rJ rJ rJ rJ rJ rJ rO rO (fun g => ?_) | refine st_slice1S rJ rJ rJ rJ rJ rJ (fun g => ?_) | refine st_slice2B rJ rJ rJ rJ rJ rJ rJ rO rO rO rO (fun g => ?_) | (apply exlConv; first | refine st_bytes rJ rJ rJ rJ rJ rO (fun v o => ?_) | refine st_mark _ rJ rJ rK rJ rJ rJ ?_) | refine st_clear _ (0 : UInt8) rJ rK rJ rJ rJ rJ rJ rO ?_ | refine st_clearT _ rJ rK rO rJ rJ rO rE ?_ | (apply exlAppend; first | refine st_app0 rJ rJ rE rD rJ rE rJ rE rJ rJ rJ rO (fun v o => ?_) | refine st_app _ rJ rE rK rE rD rJ rE rJ rE rJ rJ rJ rO (fun v o => ?_) | refine st_shift _ rJ rJ rJ rK rO rJ rJ rJ rO rO rE ?_)) | (refine Ex.cond_d rJ (fun h => ?_) (fun h => ?_) <;> try (exfalso; omega))))
    refine st_callIs [] rJ Try.call13 rE rJ (waits_site g0 d.w _ (by omega) (by omega) (by omega) (by omega)) ?_
    rintro _ _ ⟨s1, rfl, hb1, hl1, rfl⟩
    (repeat' (first | refine ExL.val rJ rJ rJ rV ?_ | (first | refine Ex.seq ?_ | refine Ex.region ?_ | refine ExL.nil ?_ | refine thn_n ?_ | refine Ex.cond_t rJ ?_ | refine Ex.cond_f rJ ?_ | refine Ex.skip ?_ | refine Ex.block ?_ | refine Ex.exit ?_ | refine Ex.ret ?_ | refine thn_exit ?_ | refine thn_ret ?_ | refine inb_n ?_ | refine inb_hit rJ ?_ | refine inb_miss rJ ?_ | refine inb_ret ?_ | refine rnd_exit ?_ | refine rnd_ret ?_ | refine meet_ret ?_ | refine meet_exit ?_) | (apply exlGuard; first | refine ExL.gskip rJ rJ rJ rJ rJ rJ ?_ | refine ExL.gtake rJ rJ rJ rJ ?_ | refine ExL.gskipU rJ rJ rJ rJ ?_ | (refine ExL.gsplit rJ rJ rJ (fun h => ?_) (fun h => ?_) <;> try (exfalso; omega))) | (first | refine st_new_ rJ rE (fun g => ?_) | refine st_boxA rJ rJ (fun g => ?_) | refine st_box1 rJ rE rN (fun g => ?_) | (apply exlStore; first | refine st_store1_ _ rJ rK rE rN rJ rJ rE rE ?_ | refine st_storeW_ _ rJ rK rJ rC rJ rJ rJ rE ?_ | refine st_storeR _ rJ rK rJ rE rJ rJ rE ?_ | refine st_storeA_ _ rJ rK rJ rC rJ rJ rJ rE rE ?_ | refine st_storeB _ rJ rJ rO rO rK rJ rO ?_ | refine st_storeG _ rJ rK rE rN rJ rO (fun cs hcs => ?_)) | refine st_slice0 rJ rJ rJ rJ (fun g => ?_) | refine st_slice1T rJ rJ rJ rJ (fun g => ?_) | refine st_makeT rJ rJ rJ rJ rE rJ rO rO (fun v o => ?_) | (apply exlCopy; first | refine st_copyW _ rJ rE rK rE rD rJ rE rJ (fun zs hzs => ?_) | refine st_copyS _ rJ rJ rK rE rD rJ rE rJ rO rO (fun zs hzs => ?_)) | refine st_sliceB rJ rJ rJ rJ rJ rJ rJ rL rE rE rJ (fun g => ?_) | refine st_slice1I rJ rJ rJ rJ rJ rJ (fun g => ?_) | refine st_slice1B rJ rJ rJ rJ rJ rJ rO rO (fun g => ?_) | refine st_slice1S rJ rJ rJ rJ rJ rJ (fun g => ?_) | refine st_slice2B rJ rJ rJ rJ rJ rJ rJ rO rO rO rO (fun g => ?_) | (apply exlConv; first | refine st_bytes rJ rJ rJ rJ rJ rO (fun v o => ?_) | refine st_mark _ rJ rJ rK rJ rJ rJ ?_) | refine st_clear _ (0 : UInt8) rJ rK rJ rJ rJ rJ rJ rO ?_ | refine st_clearT _ rJ rK rO rJ rJ rO rE ?_ | (apply exlAppend; first | refine st_app0 rJ rJ rE rD rJ rE rJ rE rJ rJ rJ rO (fun v o => ?_) | refine st_app _ rJ rE rK rE rD rJ rE rJ rE rJ rJ rJ rO (fun v o => ?_) | refine st_shift _ rJ rJ rJ rK rO rJ rJ rJ rO rO rE ?_)) | (refine Ex.cond_d rJ (fun h => ?_) (fun h => ?_) <;> try (exfalso; omega))))
    have hT1 : ∀ i, i < j → (fun i => if i = late then (⟨(k : Int) - 1, 0, 0, 0, 0⟩ : Clk) else K5 k) i = if i = late then (T late).join ⟨(k : Int) - 1, 0, 0, 0, 0⟩ else T i := fun i hi => by
      simp only [hT]
      by_cases h : i = late
      · rw [if_pos h, if_pos h, if_neg (by omega), hcl0 _ (by simp only; omega) rfl rfl rfl rfl]
      · rw [if_neg h, if_neg h, if_pos ⟨hi, h⟩]
    have hc1 : k - 1 = cutTo 0 (leastF j (fun i => if i = late then (⟨(k : Int) - 1, 0, 0, 0, 0⟩ : Clk) else K5 k) 0) k := by
      rw [leastF_eq (m := (k : Int) - 1) (fun i hi => by
        by_cases h : i = late
        · rw [if_pos h]; exact Int.le_refl _
        · rw [if_neg h]; show (k : Int) - 1 ≤ (k : Int) + 5; omega) hlt (by rw [if_pos rfl]; rfl)]
      unfold cutTo
      omega
    have hack1 := fun M => waits_ack g0 d.w (n := j) (k := k) (T := T) _ (c := 0) (k - 1) (r := late) (cl := ⟨(k : Int) - 1, 0, 0, 0, 0⟩) M (by omega) (by omega) (by omega) hlt hT1 hc1
    refine st_callIs [1] rJ Try.call17 rE rJ (hack1 _) ?_
    rintro _ _ ⟨rfl, rfl⟩
    (repeat' (first | refine ExL.val rJ rJ rJ rV ?_ | (first | refine Ex.seq ?_ | refine Ex.region ?_ | refine ExL.nil ?_ | refine thn_n ?_ | refine Ex.cond_t rJ ?_ | refine Ex.cond_f rJ ?_ | refine Ex.skip ?_ | refine Ex.block ?_ | refine Ex.exit ?_ | refine Ex.ret ?_ | refine thn_exit ?_ | refine thn_ret ?_ | refine inb_n ?_ | refine inb_hit rJ ?_ | refine inb_miss rJ ?_ | refine inb_ret ?_ | refine rnd_exit ?_ | refine rnd_ret ?_ | refine meet_ret ?_ | refine meet_exit ?_) | (apply exlGuard; first | refine ExL.gskip rJ rJ rJ rJ rJ rJ ?_ | refine ExL.gtake rJ rJ rJ rJ ?_ | refine ExL.gskipU rJ rJ rJ rJ ?_ | (refine ExL.gsplit rJ rJ rJ (fun h => ?_) (fun h => ?_) <;> try (exfalso; omega))) | (first | refine st_new_ rJ rE (fun g => ?_) | refine st_boxA rJ rJ (fun g => ?_) | refine st_box1 rJ rE rN (fun g => ?_) | (apply exlStore; first | refine st_store1_ _ rJ rK rE rN rJ rJ rE rE ?_ | refine st_storeW_ _ rJ rK rJ rC rJ rJ rJ rE ?_ | refine st_storeR _ rJ rK rJ rE rJ rJ rE ?_ | refine st_storeA_ _ rJ rK rJ rC rJ rJ rJ rE rE ?_ | refine st_storeB _ rJ rJ rO rO rK rJ rO ?_ | refine st_storeG _ rJ rK rE rN rJ rO (fun cs hcs => ?_)) | refine st_slice0 rJ rJ rJ rJ (fun g => ?_) | refine st_slice1T rJ rJ rJ rJ (fun g => ?_) | refine st_makeT rJ rJ rJ rJ rE rJ rO rO (fun v o => ?_) | (apply exlCopy; first | refine st_copyW _ rJ rE rK rE rD rJ rE rJ (fun zs hzs => ?_) | refine st_copyS _ rJ rJ rK rE rD rJ rE rJ rO rO (fun zs hzs => ?_)) | refine st_sliceB rJ rJ rJ rJ rJ rJ rJ rL rE rE rJ (fun g => ?_) | refine st_slice1I rJ rJ rJ rJ rJ rJ (fun g => ?_) | refine st_slice1B rJ rJ rJ rJ rJ rJ rO rO (fun g => ?_) | refine st_slice1S rJ rJ rJ rJ rJ rJ (fun g => ?_) | refine st_slice2B rJ rJ rJ rJ rJ rJ rJ rO rO rO rO (fun g => ?_) | (apply exlConv; first | refine st_bytes rJ rJ rJ rJ rJ rO (fun v o => ?_) | refine st_mark _ rJ rJ rK rJ rJ rJ ?_) | refine st_clear _ (0 : UInt8) rJ rK rJ rJ rJ rJ rJ rO ?_ | refine st_clearT _ rJ rK rO rJ rJ rO rE ?_ | (apply exlAppend; first | refine st_app0 rJ rJ rE rD rJ rE rJ rE rJ rJ rJ rO (fun v o => ?_) | refine st_app _ rJ rE rK rE rD rJ rE rJ rE rJ rJ rJ rO (fun v o => ?_) | refine st_shift _ rJ rJ rJ rK rO rJ rJ rJ rO rO rE ?_)) | (refine Ex.cond_d rJ (fun h => ?_) (fun h => ?_) <;> try (exfalso; omega))))
    refine st_callIs [] rJ Try.call13 rE rJ (waits_site g0 d.w _ (by omega) (by omega) (by omega) (by omega)) ?_
    rintro _ _ ⟨s2, rfl, hb2, hl2, rfl⟩
    (repeat' (first | refine ExL.val rJ rJ rJ rV ?_ | (first | refine Ex.seq ?_ | refine Ex.region ?_ | refine ExL.nil ?_ | refine thn_n ?_ | refine Ex.cond_t rJ ?_ | refine Ex.cond_f rJ ?_ | refine Ex.skip ?_ | refine Ex.block ?_ | refine Ex.exit ?_ | refine Ex.ret ?_ | refine thn_exit ?_ | refine thn_ret ?_ | refine inb_n ?_ | refine inb_hit rJ ?_ | refine inb_miss rJ ?_ | refine inb_ret ?_ | refine rnd_exit ?_ | refine rnd_ret ?_ | refine meet_ret ?_ | refine meet_exit ?_) | (apply exlGuard; first | refine ExL.gskip rJ rJ rJ rJ rJ rJ ?_ | refine ExL.gtake rJ rJ rJ rJ ?_ | refine ExL.gskipU rJ rJ rJ rJ ?_ | (refine ExL.gsplit rJ rJ rJ (fun h => ?_) (fun h => ?_) <;> try (exfalso; omega))) | (first | refine st_new_ rJ rE (fun g => ?_) | refine st_boxA rJ rJ (fun g => ?_) | refine st_box1 rJ rE rN (fun g => ?_) | (apply exlStore; first | refine st_store1_ _ rJ rK rE rN rJ rJ rE rE ?_ | refine st_storeW_ _ rJ rK rJ rC rJ rJ rJ rE ?_ | refine st_storeR _ rJ rK rJ rE rJ rJ rE ?_ | refine st_storeA_ _ rJ rK rJ rC rJ rJ rJ rE rE ?_ | refine st_storeB _ rJ rJ rO rO rK rJ rO ?_ | refine st_storeG _ rJ rK rE rN rJ rO (fun cs hcs => ?_)) | refine st_slice0 rJ rJ rJ rJ (fun g => ?_) | refine st_slice1T rJ rJ rJ rJ (fun g => ?_) | refine st_makeT rJ rJ rJ rJ rE rJ rO rO (fun v o => ?_) | (apply exlCopy; first | refine st_copyW _ rJ rE rK rE rD rJ rE rJ (fun zs hzs => ?_) | refine st_copyS _ rJ rJ rK rE rD rJ rE rJ rO rO (fun zs hzs => ?_)) | refine st_sliceB rJ rJ rJ rJ rJ rJ rJ rL rE rE rJ (fun g => ?_) | refine st_slice1I rJ rJ rJ rJ rJ rJ (fun g => ?_) | refine st_slice1B rJ rJ rJ rJ rJ rJ rO rO (fun g => ?_) | refine st_slice1S rJ rJ rJ rJ rJ rJ (fun g => ?_) | refine st_slice2B rJ rJ rJ rJ rJ rJ rJ rO rO rO rO (fun g => ?_) | (apply exlConv; first | refine st_bytes rJ rJ rJ rJ rJ rO (fun v o => ?_) | refine st_mark _ rJ rJ rK rJ rJ rJ ?_) | refine st_clear _ (0 : UInt8) rJ rK rJ rJ rJ rJ rJ rO ?_ | refine st_clearT _ rJ rK rO rJ rJ rO rE ?_ | (apply exlAppend; first | refine st_app0 rJ rJ rE rD rJ rE rJ rE rJ rJ rJ rO (fun v o => ?_) | refine st_app _ rJ rE rK rE rD rJ rE rJ rE rJ rJ rJ rO (fun v o => ?_) | refine st_shift _ rJ rJ rJ rK rO rJ rJ rJ rO rO rE ?_)) | (refine Ex.cond_d rJ (fun h => ?_) (fun h => ?_) <;> try (exfalso; omega))))
    have hT2 : ∀ i, i < j → (fun i => if i = late then (⟨(k : Int), 0, 0, 0, 0⟩ : Clk) else K5 k) i = if i = late then ((fun i => if i = late then (⟨(k : Int) - 1, 0, 0, 0, 0⟩ : Clk) else K5 k) late).join ⟨(k : Int), 0, 0, 0, 0⟩ else (fun i => if i = late then (⟨(k : Int) - 1, 0, 0, 0, 0⟩ : Clk) else K5 k) i := fun i hi => by
      simp only
      by_cases h : i = late
      · rw [if_pos h, if_pos h, if_pos trivial]
        unfold Clk.join
        simp only [Clk.mk.injEq]
        omega
      · rw [if_neg h, if_neg h, if_neg h]
    have hc2 : k = cutTo (k - 1) (leastF j (fun i => if i = late then (⟨(k : Int), 0, 0, 0, 0⟩ : Clk) else K5 k) 0) k := by
      rw [leastF_eq (m := (k : Int)) (fun i hi => by
        by_cases h : i = late
        · rw [if_pos h]; exact Int.le_refl _
        · rw [if_neg h]; show (k : Int) ≤ (k : Int) + 5; omega) hlt (by rw [if_pos rfl]; rfl)]
      unfold cutTo
      omega
    have hack2 := fun M => waits_ack g0 d.w (n := j) (k := k) _ (c := k - 1) k (r := late) (cl := ⟨(k : Int), 0, 0, 0, 0⟩) M (by omega) (by omega) (by omega) hlt hT2 hc2
    refine st_callIs [1] rJ Try.call17 rE rJ (hack2 _) ?_
    rintro _ _ ⟨rfl, rfl⟩
    (repeat' (first | refine ExL.val rJ rJ rJ rV ?_ | (first | refine Ex.seq ?_ | refine Ex.region ?_ | refine ExL.nil ?_ | refine thn_n ?_ | refine Ex.cond_t rJ ?_ | refine Ex.cond_f rJ ?_ | refine Ex.skip ?_ | refine Ex.block ?_ | refine Ex.exit ?_ | refine Ex.ret ?_ | refine thn_exit ?_ | refine thn_ret ?_ | refine inb_n ?_ | refine inb_hit rJ ?_ | refine inb_miss rJ ?_ | refine inb_ret ?_ | refine rnd_exit ?_ | refine rnd_ret ?_ | refine meet_ret ?_ | refine meet_exit ?_) | (apply exlGuard; first | refine ExL.gskip rJ rJ rJ rJ rJ rJ ?_ | refine ExL.gtake rJ rJ rJ rJ ?_ | refine ExL.gskipU rJ rJ rJ rJ ?_ | (refine ExL.gsplit rJ rJ rJ (fun h => ?_) (fun h => ?_) <;> try (exfalso; omega))) | (first | refine st_new_ rJ rE (fun g => ?_) | refine st_boxA rJ rJ (fun g => ?_) | refine st_box1 rJ rE rN (fun g => ?_) | (apply exlStore; first | refine st_store1_ _ rJ rK rE rN rJ rJ rE rE ?_ | refine st_storeW_ _ rJ rK rJ rC rJ rJ rJ rE ?_ | refine st_storeR _ rJ rK rJ rE rJ rJ rE ?_ | refine st_storeA_ _ rJ rK rJ rC rJ rJ rJ rE rE ?_ | refine st_storeB _ rJ rJ rO rO rK rJ rO ?_ | refine st_storeG _ rJ rK rE rN rJ rO (fun cs hcs => ?_)) | refine st_slice0 rJ rJ rJ rJ (fun g => ?_) | refine st_slice1T rJ rJ rJ rJ (fun g => ?_) | refine st_makeT rJ rJ rJ rJ rE rJ rO rO (fun v o => ?_) | (apply exlCopy; first | refine st_copyW _ rJ rE rK rE rD rJ rE rJ (fun zs hzs => ?_) | refine st_copyS _ rJ rJ rK rE rD rJ rE rJ rO rO (fun zs hzs => ?_)) | refine st_sliceB rJ rJ rJ rJ rJ rJ rJ rL rE rE rJ (fun g => ?_) | refine st_slice1I rJ rJ rJ rJ rJ rJ (fun g => ?_) | refine st_slice1B rJ rJ rJ rJ rJ rJ rO rO (fun g => ?_) | refine st_slice1S rJ rJ rJ rJ rJ rJ (fun g => ?_) | refine st_slice2B rJ rJ rJ rJ rJ rJ rJ rO rO rO rO (fun g => ?_) | (apply exlConv; first | refine st_bytes rJ rJ rJ rJ rJ rO (fun v o => ?_) | refine st_mark _ rJ rJ rK rJ rJ rJ ?_) | refine st_clear _ (0 : UInt8) rJ rK rJ rJ rJ rJ rJ rO ?_ | refine st_clearT _ rJ rK rO rJ rJ rO rE ?_ | (apply exlAppend; first | refine st_app0 rJ rJ rE rD rJ rE rJ rE rJ rJ rJ rO (fun v o => ?_) | refine st_app _ rJ rE rK rE rD rJ rE rJ rE rJ rJ rJ rO (fun v o => ?_) | refine st_shift _ rJ rJ rJ rK rO rJ rJ rJ rO rO rE ?_)) | (refine Ex.cond_d rJ (fun h => ?_) (fun h => ?_) <;> try (exfalso; omega))))
    refine st_callIs [] rJ Try.call13 rE rJ (waits_site g0 d.w _ (by omega) (by omega) (by omega) (by omega)) ?_
    rintro _ _ ⟨s3, rfl, hb3, hl3, rfl⟩
    (repeat' (first | refine ExL.val rJ rJ rJ rV ?_ | (first | refine Ex.seq ?_ | refine Ex.region ?_ | refine ExL.nil ?_ | refine thn_n ?_ | refine Ex.cond_t rJ ?_ | refine Ex.cond_f rJ ?_ | refine Ex.skip ?_ | refine Ex.block ?_ | refine Ex.exit ?_ | refine Ex.ret ?_ | refine thn_exit ?_ | refine thn_ret ?_ | refine inb_n ?_ | refine inb_hit rJ ?_ | refine inb_miss rJ ?_ | refine inb_ret ?_ | refine rnd_exit ?_ | refine rnd_ret ?_ | refine meet_ret ?_ | refine meet_exit ?_) | (apply exlGuard; first | refine ExL.gskip rJ rJ rJ rJ rJ rJ ?_ | refine ExL.gtake rJ rJ rJ rJ ?_ | refine ExL.gskipU rJ rJ rJ rJ ?_ | (refine ExL.gsplit rJ rJ rJ (fun h => ?_) (fun h => ?_) <;> try (exfalso; omega))) | (first | refine st_new_ rJ rE (fun g => ?_) | refine st_boxA rJ rJ (fun g => ?_) | refine st_box1 rJ rE rN (fun g => ?_) | (apply exlStore; first | refine st_store1_ _ rJ rK rE rN rJ rJ rE rE ?_ | refine st_storeW_ _ rJ rK rJ rC rJ rJ rJ rE ?_ | refine st_storeR _ rJ rK rJ rE rJ rJ rE ?_ | refine st_storeA_ _ rJ rK rJ rC rJ rJ rJ rE rE ?_ | refine st_storeB _ rJ rJ rO rO rK rJ rO ?_ | refine st_storeG _ rJ rK rE rN rJ rO (fun cs hcs => ?_)) | refine st_slice0 rJ rJ rJ rJ (fun g => ?_) | refine st_slice1T rJ rJ rJ rJ (fun g => ?_) | refine st_makeT rJ rJ rJ rJ rE rJ rO rO (fun v o => ?_) | (apply exlCopy; first | refine st_copyW _ rJ rE rK rE rD rJ rE rJ (fun zs hzs => ?_) | refine st_copyS _ rJ rJ rK rE rD rJ rE rJ rO rO (fun zs hzs => ?_)) | refine st_sliceB rJ rJ rJ rJ rJ rJ rJ rL rE rE rJ (fun g => ?_) | refine st_slice1I rJ rJ rJ rJ rJ rJ (fun g => ?_) | refine st_slice1B rJ rJ rJ rJ rJ rJ rO rO (fun g => ?_) | refine st_slice1S rJ rJ rJ rJ rJ rJ (fun g => ?_) | refine st_slice2B rJ rJ rJ rJ rJ rJ rJ rO rO rO rO (fun g => ?_) | (apply exlConv; first | refine st_bytes rJ rJ rJ rJ rJ rO (fun v o => ?_) | refine st_mark _ rJ rJ rK rJ rJ rJ ?_) | refine st_clear _ (0 : UInt8) rJ rK rJ rJ rJ rJ rJ rO ?_ | refine st_clearT _ rJ rK rO rJ rJ rO rE ?_ | (apply exlAppend; first | refine st_app0 rJ rJ rE rD rJ rE rJ rE rJ rJ rJ rO (fun v o => ?_) | refine st_app _ rJ rE rK rE rD rJ rE rJ rE rJ rJ rJ rO (fun v o => ?_) | refine st_shift _ rJ rJ rJ rK rO rJ rJ rJ rO rO rE ?_)) | (refine Ex.cond_d rJ (fun h => ?_) (fun h => ?_) <;> try (exfalso; omega))))
    (first | refine fin_ret rS ?_ | refine fin_norm rS ?_)
    exact ⟨_, rB, rfl, rfl⟩
end Go.Proofs.Ytkcpgdkchglhhaa
/- How a hub stands, compared; what a push of the next row does. No condition. -/
namespace Go.Proofs.Ytkcpgdkchglhhaa
open Go.RowKit
set_option linter.unusedSimpArgs false
set_option linter.unusedVariables false
instance : EqT Try.prog 39 Hs := ⟨6, .b :: List.replicate 35 (.i .i64), by kernel_rfl, by kernel_rfl, by kernel_rfl, by kernel_rfl, fun _ => rfl, fun a b h => by
  obtain ⟨⟨a1, a2, a3, a4, a5⟩, ⟨b1, b2, b3, b4, b5⟩, ⟨c1, c2, c3, c4, c5⟩, ⟨d1, d2, d3, d4, d5⟩, ⟨e1, e2, e3, e4, e5⟩, ⟨f1, f2, f3, f4, f5⟩, ⟨g1, g2, g3, g4, g5⟩⟩ := a
  obtain ⟨⟨A1, A2, A3, A4, A5⟩, ⟨B1, B2, B3, B4, B5⟩, ⟨C1, C2, C3, C4, C5⟩, ⟨D1, D2, D3, D4, D5⟩, ⟨E1, E2, E3, E4, E5⟩, ⟨F1, F2, F3, F4, F5⟩, ⟨G1, G2, G3, G4, G5⟩⟩ := b
  simp only [Rep.cells, List.cons_append, List.nil_append, List.append_assoc, List.cons.injEq, Value.int.injEq, true_and, and_true] at h
  simp only [Hs.mk.injEq, Clk.mk.injEq]
  obtain ⟨h1, h2, h3, h4, h5, h6, h7, h8, h9, h10, h11, h12, h13, h14, h15, h16, h17, h18, h19, h20, h21, h22, h23, h24, h25, h26, h27, h28, h29, h30, h31, h32, h33, h34, h35⟩ := h
  exact ⟨⟨h1, h2, h3, h4, h5⟩, ⟨h6, h7, h8, h9, h10⟩, ⟨h11, h12, h13, h14, h15⟩, ⟨h16, h17, h18, h19, h20⟩, ⟨h21, h22, h23, h24, h25⟩, ⟨h26, h27, h28, h29, h30⟩, ⟨h31, h32, h33, h34, h35⟩⟩⟩
/-- A push of the next k of r's row. -/
theorem push_next (g : Nat) (most : Int) (n : Nat) (T : Nat → Clk) (len cut : Nat → Nat) {r k : Nat} {a : Int} (u : Value) (M : List Assn) (hn : n ≤ 5) (hr : r < n) (hi : ∀ i, i < n → cut i ≤ len i ∧ len i ≤ 1000000) (ha : a = (len r : Int) + 1) (hk : k ≤ 1000000) (hu : RdT M u (rowR r a k)) :
    Fn Try.prog 15 #[.pointer (some ⟨g, 0, none⟩), .int .i64 r, u] (PoA g most (mkR n T len cut) :: M) fun v L' =>
      ((k = 0 ∨ (len r : Int) - cut r + k ≤ most) ∧ v = .tuple #[.int .i64 ((len r : Int) + k), .int .i64 0] ∧ L' = PoA g most (mkR n T (put1 len r (len r + k)) (put1 cut r (cutTo (cut r) (leastF n T r) (len r + k)))) :: M) ∨
      (¬ (k = 0 ∨ (len r : Int) - cut r + k ≤ most) ∧ v = .tuple #[.int .i64 0, .int .i64 21] ∧ L' = PoA g most (mkR n T len cut) :: M) := by
  subst ha
  have hlr := hi r hr
  have h := post_PushA g most (mkR n T len cut) r u (rowR r ((len r : Int) + 1) k) M (mkR_ok hn hi) hu (by rw [rowR_len]; exact hk) (fun e he => by
    obtain ⟨i, hi, rfl⟩ := rowR_mem he
    unfold I64 evR
    simp only
    omega)
  by_cases hw : k = 0 ∨ (len r : Int) - cut r + k ≤ most
  · rw [mkR_push n T len cut hr (.inr (Int.le_refl _)) hlr.1 (f := k) (by omega) hw] at h
    refine h.res ?_
    rintro v L' ⟨rfl, rfl⟩
    exact ⟨_, Sub.refl _, .inl ⟨hw, by simp, rfl⟩⟩
  · rw [mkR_pushF n T len cut hr (Int.le_refl _) hlr.1 (f := k) (by omega) (by omega) (by omega)] at h
    refine h.res ?_
    rintro v L' ⟨rfl, rfl⟩
    exact ⟨_, Sub.refl _, .inr ⟨hw, rfl, rfl⟩⟩
end Go.Proofs.Ytkcpgdkchglhhaa
/- A call of layer 16. No condition. -/
namespace Go.Proofs.Ytkcpgdkchglhhaa
open Go.RowKit
set_option linter.unusedSimpArgs false
set_option linter.unusedVariables false
def Clk.I (c : Clk) : Prop := ∀ i, i < 5 → I64 (c.get i)
structure Op16 where
  kind : Int
  many : Int
  back : Int
  r : Int
  c : Clk
  v : Value
  one : v.oneCell' = true
  l : List Ev
instance : Rep Op16 := ⟨10, fun o => [.int .u8 o.kind, .int .u8 o.many, .int .u8 o.back, .int .i64 o.r, .int .i64 o.c.a, .int .i64 o.c.b, .int .i64 o.c.c, .int .i64 o.c.d, .int .i64 o.c.e, o.v], by decide, fun _ => rfl, fun o => by simp only [List.all_cons, List.all_nil, o.one, Bool.and_true]; rfl⟩
structure Op16.Ok (L : List Assn) (o : Op16) : Prop where
  k : 0 ≤ o.kind ∧ o.kind ≤ 255
  m : 0 ≤ o.many ∧ o.many ≤ 255
  b : 0 ≤ o.back ∧ o.back ≤ 255
  r : I64 o.r
  c : o.c.I
  rd : RdT L o.v o.l
  n : ∀ e ∈ o.l, I64 e.n
end Go.Proofs.Ytkcpgdkchglhhaa
