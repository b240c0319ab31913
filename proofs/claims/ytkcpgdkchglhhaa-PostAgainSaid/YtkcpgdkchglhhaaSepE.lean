/- A region that draws its order: the theorem. No condition. -/
import Derived.Test.YtkcpgdkchglhhaaSepD
namespace Go.Proofs.Ytkcpgdkchglhhaa
open Go.RowKit
set_option linter.unusedSimpArgs false
set_option linter.unusedVariables false
def edgeOn (ops : Array Oper) (j k : Nat) : Bool := match ops[j]? with
  | some o => o.after.any fun e => Region.binds .any e && Nat.beq e.on k
  | none => false
def waits (ops : Array Oper) : Nat → Nat → Nat → Bool
  | 0, j, k => edgeOn ops j k
  | d + 1, j, k => edgeOn ops j k || match ops[j]? with
    | some o => o.after.any fun e => Region.binds .any e && waits ops d e.on k
    | none => false
def apartAt (ops : Array Oper) (k j : Nat) : Bool := match ops[k]?, ops[j]? with
  | some p, some o => p.apart ops o
  | _, _ => true
def loudK (x : Nat) : Bool := match x with
  | 0 => false
  | 1 => false
  | _ => true
def mixOk (n : Nat) (ops : Array Oper) (kd : Nat → Nat) (m : Nat) : Bool :=
  Region.noSelect ops &&
  (List.range ops.size).all (fun j => match ops[j]? with | some o => (o.after.all fun e => !Region.binds .any e || Nat.blt e.on j) && dstOk n o.dst | none => true) &&
  (List.range m).all (fun j => (List.range j).all fun k => edgeOn ops j k || apartAt ops k j) &&
  (List.range m).all (fun j => !loudK (kd j) || (List.range j).all fun k => Nat.beq (kd k) 0 || waits ops 4 j k || (List.range j).any fun x => Nat.blt k x && loudK (kd x)) &&
  (List.range ops.size).all (fun j => Nat.blt j m || match Nat.beq j m with | true => (List.range m).all fun k => edgeOn ops j k | false => edgeOn ops j (j - 1)) &&
  Nat.ble m ops.size
def idx : Nat → List Oper → List (Nat × Oper)
  | _, [] => []
  | k, o :: l => (k, o) :: idx (k + 1) l
section
variable {P : Program} {n : Nat} {ops : Array Oper} {kd : Nat → Nat} {Lb : List Assn} {m : Nat}
theorem edgeOn_spec {j k : Nat} : edgeOn ops j k = true ↔ ∃ o, ops[j]? = some o ∧ ∃ e ∈ o.after, Region.binds .any e = true ∧ e.on = k := by
  unfold edgeOn
  cases ho : ops[j]? with
  | none => simp
  | some o =>
    simp only [← Array.any_toList, List.any_eq_true, Array.mem_toList_iff, Bool.and_eq_true, Option.some.injEq, exists_eq_left']
    exact ⟨fun ⟨e, h1, h2, h3⟩ => ⟨e, h1, h2, Nat.eq_of_beq_eq_true h3⟩, fun ⟨e, h1, h2, h3⟩ => ⟨e, h1, h2, by rw [h3]; simp⟩⟩
structure Inv (ops : Array Oper) (m : Nat) (listed : Array Bool) (l : List (Nat × Oper)) : Prop where
  inc : l.Pairwise fun x y => x.1 < y.1
  mem : ∀ x ∈ l, ops[x.1]? = some x.2 ∧ x.1 < m ∧ listed.getD x.1 true = false
  all : ∀ i, i < m → listed.getD i true = false → ∃ o, (i, o) ∈ l
  back : ∀ i, m ≤ i → i < ops.size → listed.getD i true = false
  size : listed.size = ops.size
  closed : ∀ x o, ops[x]? = some o → listed.getD x false = true → ∀ e ∈ o.after, Region.binds .any e = true → listed.getD e.on false = true
theorem getD_tf {listed : Array Bool} {i : Nat} (h : listed.getD i true = false) : listed.getD i false = false := by
  by_cases hl : i < listed.size
  · simp [Array.getD, hl] at h ⊢; exact h
  · simp [Array.getD, hl] at h
theorem getD_ft {listed : Array Bool} {i : Nat} (h : listed.getD i false = true) : listed.getD i true = true := by
  by_cases hl : i < listed.size
  · simp [Array.getD, hl] at h ⊢; exact h
  · simp [Array.getD, hl]
theorem waits_listed {listed : Array Bool} {l : List (Nat × Oper)} (I : Inv ops m listed l) : ∀ (d j k : Nat), waits ops d j k = true → (listed.getD j false = true ∨ j ∈ Region.ready .any ops listed) → listed.getD k false = true := by
  have direct : ∀ (j k : Nat) (o : Oper) (e : Edge), ops[j]? = some o → e ∈ o.after → Region.binds .any e = true → e.on = k → (listed.getD j false = true ∨ j ∈ Region.ready .any ops listed) → listed.getD k false = true := by
    intro j k o e ho he hb hk h
    subst hk
    rcases h with h | h
    · exact I.closed j o ho h e he hb
    · obtain ⟨_, o', ho', hall⟩ := mem_ready.1 h
      rw [ho] at ho'; cases ho'
      exact hall e he hb
  intro d
  induction d with
  | zero =>
    intro j k hw h
    obtain ⟨o, ho, e, he, hb, hk⟩ := edgeOn_spec.1 hw
    exact direct j k o e ho he hb hk h
  | succ d ih =>
    intro j k hw h
    simp only [waits, Bool.or_eq_true] at hw
    rcases hw with hw | hw
    · obtain ⟨o, ho, e, he, hb, hk⟩ := edgeOn_spec.1 hw
      exact direct j k o e ho he hb hk h
    · cases ho : ops[j]? with
      | none => rw [ho] at hw; simp at hw
      | some o =>
        rw [ho] at hw
        simp only [← Array.any_toList, List.any_eq_true, Array.mem_toList_iff, Bool.and_eq_true] at hw
        obtain ⟨e, he, hb, hw⟩ := hw
        exact ih e.on k hw (.inl (direct j e.on o e ho he hb rfl h))
theorem loud_listed {listed : Array Bool} {l : List (Nat × Oper)} (I : Inv ops m listed l)
    (hc : ∀ j, j < m → loudK (kd j) = true → ∀ k, k < j → kd k = 0 ∨ waits ops 4 j k = true ∨ ∃ x, x < j ∧ k < x ∧ loudK (kd x) = true) :
    ∀ (d j k : Nat), j - k ≤ d → k < j → j < m → loudK (kd j) = true → kd k ≠ 0 → (listed.getD j false = true ∨ j ∈ Region.ready .any ops listed) → listed.getD k false = true := by
  intro d
  induction d with
  | zero => intro j k h1 h2; omega
  | succ d ih =>
    intro j k h1 h2 hj hl hk h
    rcases hc j hj hl k h2 with h0 | h0 | ⟨x, hx, hkx, hlx⟩
    · exact absurd h0 hk
    · exact waits_listed I 4 j k h0 h
    · have hx0 : kd x ≠ 0 := by intro e; rw [e] at hlx; simp [loudK] at hlx
      have := ih j x (by omega) hx hj hl hx0 h
      exact ih x k (by omega) hkx (by omega) hlx hk (.inl this)
variable {Z : (Nat → Value) → List Assn → Prop}
theorem Mix.front {i : Nat} {o : Oper} {l2 : List (Nat × Oper)} (hso : ∀ cs b, o.op ≠ .select cs b) (hdo : dstOk n o.dst = true) : ∀ (l1 : List (Nat × Oper)), (∀ x ∈ l1, (∀ cs b, x.2.op ≠ .select cs b) ∧ x.2.apart ops o = true ∧ dstOk n x.2.dst = true ∧ (kd i = 0 ∨ kd x.1 = 0 ∨ kd i = 1)) →
    ∀ {f : Nat → Value} {L : List Assn}, Fac Lb L → Mix P n ops kd Lb Z (l1 ++ (i, o) :: l2) f L → Mix P n ops kd Lb Z ((i, o) :: (l1 ++ l2)) f L
  | [], _, f, L, _, h => h
  | (k, p) :: l1, hall, f, L, hf, h => by
    obtain ⟨h1, h2, h3, h4⟩ := hall (k, p) (List.mem_cons_self ..)
    refine Mix.swap h1 hso h2 h3 hdo h4 hf ?_
    exact Mix.tail (fun f L hf h => Mix.front hso hdo l1 (fun x hx => hall x (List.mem_cons_of_mem _ hx)) hf h) hf h
theorem Inv.step {listed : Array Bool} {l1 l2 : List (Nat × Oper)} {i : Nat} {o : Oper} (I : Inv ops m listed (l1 ++ (i, o) :: l2)) (hi : i ∈ Region.ready .any ops listed) : Inv ops m (listed.setIfInBounds i true) (l1 ++ l2) := by
  have hinc := I.inc
  rw [List.pairwise_append, List.pairwise_cons] at hinc
  obtain ⟨p1, ⟨p2, p3⟩, p4⟩ := hinc
  obtain ⟨hmi, him, hli⟩ := I.mem (i, o) (by simp)
  refine ⟨?_, ?_, ?_, ?_, ?_, ?_⟩
  · rw [List.pairwise_append]
    exact ⟨p1, p3, fun a ha b hb => p4 a ha b (List.mem_cons_of_mem _ hb)⟩
  · intro x hx
    have hx' : x ∈ l1 ++ (i, o) :: l2 := by
      rw [List.mem_append] at hx ⊢
      rcases hx with h | h
      · exact .inl h
      · exact .inr (List.mem_cons_of_mem _ h)
    obtain ⟨h1, h2, h3⟩ := I.mem x hx'
    refine ⟨h1, h2, ?_⟩
    have hne : i ≠ x.1 := by
      rw [List.mem_append] at hx
      rcases hx with h | h
      · have := p4 x h (i, o) (List.mem_cons_self ..); simp at this; omega
      · have := p2 x h; simp at this; omega
    rw [getD_set_ne true hne]; exact h3
  · intro j hj hl
    by_cases hji : i = j
    · subst hji
      have hs : i < listed.size := by rw [I.size]; exact (Array.getElem?_eq_some_iff.1 hmi).1
      simp [Array.getD, hs] at hl
    · rw [getD_set_ne true hji] at hl
      obtain ⟨o', h⟩ := I.all j hj hl
      refine ⟨o', ?_⟩
      rw [List.mem_append, List.mem_cons] at h
      rw [List.mem_append]
      rcases h with h | h | h
      · exact .inl h
      · cases h; exact absurd rfl hji
      · exact .inr h
  · intro j h1 h2
    rw [getD_set_ne true (by simp at him; omega)]
    exact I.back j h1 h2
  · simpa using I.size
  · intro x o' ho hl e he hb
    by_cases hxi : i = x
    · subst hxi
      obtain ⟨_, o2, ho2, hall⟩ := mem_ready.1 hi
      rw [ho] at ho2; cases ho2
      exact getD_set_true (hall e he hb)
    · rw [getD_set_ne false hxi] at hl
      exact getD_set_true (I.closed x o' ho hl e he hb)
theorem wpAny_tail {Q : Exit → Act → World → Prop} : ∀ (tl : List Oper) (m : Nat) (listed : Array Bool) (a : Act) (w : World), (∀ j, tl[j]? = ops[m + j]?) → m + tl.length = ops.size → listed.size = ops.size → (∀ i, i < m → listed.getD i false = true) → (∀ i, m ≤ i → i < ops.size → listed.getD i true = false) →
    (∀ j o, ops[j]? = some o → ∀ e ∈ o.after, Region.binds .any e = true → e.on < j) → (∀ j, m < j → j < ops.size → edgeOn ops j (j - 1) = true) → wpList P ops Q tl a w → wpAny P .any ops Q tl.length listed a w
  | [], m, listed, a, w, htl, hlen, hsz, hl, hb, hlex, hed, h => by
    refine ⟨?_, h⟩
    rw [List.eq_nil_iff_forall_not_mem]
    intro i hi
    obtain ⟨h0, o, ho, _⟩ := mem_ready.1 hi
    have hi' := (Array.getElem?_eq_some_iff.1 ho).1
    have := hl i (by simp at hlen; omega)
    rw [getD_ft this] at h0
    cases h0
  | o :: tl, m, listed, a, w, htl, hlen, hsz, hl, hb, hlex, hed, h => by
    have hm : m < ops.size := by simp at hlen; omega
    have ho : ops[m]? = some o := by simpa using (htl 0).symm
    have hrm : m ∈ Region.ready .any ops listed := mem_ready.2 ⟨hb m (Nat.le_refl _) hm, o, ho, fun e he hbn => hl _ (hlex m o ho e he hbn)⟩
    refine ⟨fun h0 => (by rw [h0] at hrm; cases hrm), fun i hi => ?_⟩
    have him : i = m := by
      obtain ⟨h0, o', ho', hall⟩ := mem_ready.1 hi
      have hi' := (Array.getElem?_eq_some_iff.1 ho').1
      rcases Nat.lt_trichotomy i m with hlt | he | hgt
      · have := hl i hlt; rw [getD_ft this] at h0; cases h0
      · exact he
      · obtain ⟨o2, ho2, e, he, hbn, hek⟩ := edgeOn_spec.1 (hed i hgt hi')
        rw [ho'] at ho2; cases ho2
        have h1 := hall e he hbn
        rw [hek] at h1
        have := hb (i - 1) (by omega) (by omega)
        rw [getD_ft h1] at this
        cases this
    subst him
    have ih : ∀ a w, wpList P ops Q tl a w → wpAny P .any ops Q tl.length (listed.setIfInBounds i true) a w := fun a w h => by
      refine wpAny_tail tl (i + 1) _ a w (fun j => by have := htl (j + 1); simpa [Nat.add_assoc, Nat.add_comm 1 j] using this) (by simp at hlen ⊢; omega) (by simpa using hsz) ?_ ?_ hlex (fun j h1 h2 => hed j (by omega) h2) h
      · intro k hk
        by_cases hki : i = k
        · subst hki; simp [Array.getD, hsz, hm]
        · rw [getD_set_ne false hki]; exact hl k (by omega)
      · intro k h1 h2
        rw [getD_set_ne true (by omega)]; exact hb k (by omega) h2
    unfold wpOp
    rw [ho]
    simp only
    unfold wpList at h
    split
    · rename_i hw; rw [if_pos hw] at h; exact h.imp (Oper.wp_mono ih) id
    · rename_i hw; rw [if_neg hw] at h; exact ih _ _ h
theorem mem_writesL_iff {t : Nat} : ∀ {l : List Oper}, t ∈ writesL l ↔ ∃ o ∈ l, o.dst = some t
  | [] => by simp [writesL]
  | o :: l => by
    unfold writesL
    have ih := mem_writesL_iff (t := t) (l := l)
    cases hd : o.dst with
    | none => simp [ih, hd]
    | some d => simp [ih, hd, eq_comm]
theorem mem_split_l {α : Type} {x : α} {l : List α} (h : x ∈ l) : ∃ l1 l2, l = l1 ++ x :: l2 := List.append_of_mem h
theorem wpAny_mix {Q : Post} {D : List Deferred} {F : Frag} {w0 : World} {f0 : Nat → Value} {ws : Nat → Bool} (hok : mixOk n ops kd m = true) (hws : ∀ d, d ∈ writesL ops.toList → ws d = true) :
    ∀ (c : Nat) (l : List (Nat × Oper)) (listed : Array Bool) (a : Act) (w : World) (f : Nat → Value) (L : List Assn), l.length = c → Inv ops m listed l → Here D n F w0 f0 ws a w f L → Fac Lb L →
      Mix P n ops kd Lb (fun f L => ExL P n ops (ops.toList.drop m) Q f L) l f L → wpAny P .any ops (Lift D n F w0 f0 ws Q) (l.length + (ops.size - m)) listed a w := by
  have hk0 := hok
  simp only [mixOk, Bool.and_eq_true, List.all_eq_true, List.mem_range, Bool.or_eq_true, Bool.not_eq_true'] at hk0
  obtain ⟨⟨⟨⟨⟨c1, c2⟩, c3⟩, c4⟩, c5⟩, c6⟩ := hk0
  have hm := Nat.le_of_ble_eq_true c6
  have hsel : ∀ (j : Nat) (o : Oper), ops[j]? = some o → ∀ cs b, o.op ≠ .select cs b := fun j o h cs b => Region.noSelect_spec c1 j o cs b h
  have hlex : ∀ j o, ops[j]? = some o → ∀ e ∈ o.after, Region.binds .any e = true → e.on < j := fun j o ho e he hb => by
    have := c2 j (Array.getElem?_eq_some_iff.1 ho).1
    rw [ho] at this
    simp only [Bool.and_eq_true] at this
    have h1 := this.1
    rw [← Array.all_toList, List.all_eq_true] at h1
    have h2 := h1 e (Array.mem_toList_iff.2 he)
    rw [hb] at h2
    simp at h2
    exact h2
  have hdst : ∀ (j : Nat) (o : Oper), ops[j]? = some o → dstOk n o.dst = true := fun j o ho => by
    have := c2 j (Array.getElem?_eq_some_iff.1 ho).1
    rw [ho] at this
    simp only [Bool.and_eq_true] at this
    exact this.2
  have hwr : ∀ (j : Nat) (o : Oper), ops[j]? = some o → ∀ t, o.dst = some t → ws t = true := fun j o ho t ht =>
    hws t (mem_writesL_iff.2 ⟨o, Array.mem_toList_iff.2 (Array.mem_of_getElem? ho), ht⟩)
  have hloud : ∀ j, j < m → loudK (kd j) = true → ∀ k, k < j → kd k = 0 ∨ waits ops 4 j k = true ∨ ∃ x, x < j ∧ k < x ∧ loudK (kd x) = true := fun j hj hl k hk => by
    rcases c4 j hj with h | h
    · rw [hl] at h; cases h
    · rcases h k hk with (h | h) | h
      · exact .inl (Nat.eq_of_beq_eq_true h)
      · exact .inr (.inl h)
      · simp only [List.any_eq_true, List.mem_range, Bool.and_eq_true] at h
        obtain ⟨x, hx, hkx, hlx⟩ := h
        exact .inr (.inr ⟨x, hx, by simpa using hkx, hlx⟩)
  have htail1 : m < ops.size → ∀ k, k < m → edgeOn ops m k = true := fun h2 k hk => by
    rcases c5 m h2 with h | h
    · have := Nat.le_of_ble_eq_true h; omega
    · rw [Nat.beq_refl] at h
      exact List.all_eq_true.1 h k (List.mem_range.2 hk)
  have htail : ∀ j, m < j → j < ops.size → edgeOn ops j (j - 1) = true := fun j h1 h2 => by
    rcases c5 j h2 with h | h
    · have := Nat.le_of_ble_eq_true h; omega
    · have : Nat.beq j m = false := by cases hq : Nat.beq j m with | false => rfl | true => (have := Nat.eq_of_beq_eq_true hq; omega)
      rw [this] at h
      exact h
  intro c
  induction c with
  | zero =>
    intro l listed a w f L hc I H hf hM
    have hl : l = [] := List.eq_nil_of_length_eq_zero hc
    subst hl
    obtain ⟨L2, hs, hx⟩ := hM ⟨D, F, w, a, H.2.1, H.2.2.1⟩
    have hw := hx D F w0 f0 ws a w ⟨H.1, H.2.1, hs w F H.2.2.1, H.2.2.2⟩ (fun d hd => by
      obtain ⟨o, ho, hod⟩ := mem_writesL_iff.1 hd
      exact hws d (mem_writesL_iff.2 ⟨o, List.mem_of_mem_drop ho, hod⟩))
    have := wpAny_tail (P := P) (ops := ops) (Q := Lift D n F w0 f0 ws Q) (ops.toList.drop m) m listed a w (fun j => by simp) (by simp; omega) I.size (fun i hi => by
      cases hb : listed.getD i false with
      | true => rfl
      | false =>
        have hit : listed.getD i true = false := by
          have hs2 : i < listed.size := by rw [I.size]; omega
          simp [Array.getD, hs2] at hb ⊢; exact hb
        obtain ⟨o, ho⟩ := I.all i hi hit
        cases ho) I.back hlex htail hw
    simpa using this
  | succ c ih =>
    intro l listed a w f L hc I H hf hM
    obtain ⟨x0, lt, rfl⟩ : ∃ x0 lt, l = x0 :: lt := by
      cases l with
      | nil => simp at hc
      | cons x0 lt => exact ⟨x0, lt, rfl⟩
    obtain ⟨h01, h02, h03⟩ := I.mem x0 (List.mem_cons_self ..)
    have hlow : ∀ k, k < x0.1 → listed.getD k false = true := fun k hk => by
      cases hb : listed.getD k false with
      | true => rfl
      | false =>
        have hs2 : k < listed.size := by rw [I.size]; omega
        have hit : listed.getD k true = false := by simp [Array.getD, hs2] at hb ⊢; exact hb
        obtain ⟨o, ho⟩ := I.all k (by omega) hit
        rcases List.mem_cons.1 ho with e | e
        · rw [← e] at hk; simp at hk
        · have := (List.pairwise_cons.1 I.inc).1 _ e
          simp at this; omega
    have hr0 : x0.1 ∈ Region.ready .any ops listed := mem_ready.2 ⟨h03, x0.2, h01, fun e he hb => hlow _ (hlex _ _ h01 e he hb)⟩
    have hlen : (x0 :: lt).length + (ops.size - m) = lt.length + (ops.size - m) + 1 := by simp; omega
    rw [hlen]
    refine ⟨fun h0 => (by rw [h0] at hr0; cases hr0), fun i hi => ?_⟩
    obtain ⟨hli, o, ho, hall⟩ := mem_ready.1 hi
    have hisz := (Array.getElem?_eq_some_iff.1 ho).1
    have him : i < m := by
      rcases Nat.lt_or_ge i m with h | h
      · exact h
      · exfalso
        rcases Nat.eq_or_lt_of_le h with h | h
        · subst h
          obtain ⟨o2, ho2, e, he, hbn, hek⟩ := edgeOn_spec.1 (htail1 hisz x0.1 (by omega))
          rw [ho] at ho2; cases ho2
          have h1 := hall e he hbn
          rw [hek] at h1
          rw [getD_ft h1] at h03
          cases h03
        · obtain ⟨o2, ho2, e, he, hbn, hek⟩ := edgeOn_spec.1 (htail i h hisz)
          rw [ho] at ho2; cases ho2
          have h1 := hall e he hbn
          rw [hek] at h1
          have := I.back (i - 1) (by omega) (by omega)
          rw [getD_ft h1] at this
          cases this
    obtain ⟨o', hmem⟩ := I.all i him hli
    obtain ⟨hoo, _, _⟩ := I.mem _ hmem
    simp only at hoo
    rw [ho] at hoo
    cases hoo
    obtain ⟨l1, l2, hl⟩ := mem_split_l hmem
    rw [hl] at I hM hc
    have hinc := I.inc
    rw [List.pairwise_append, List.pairwise_cons] at hinc
    have hM' := Mix.front (hsel i o ho) (hdst i o ho) l1 (fun y hy => by
      obtain ⟨y1, y2, y3⟩ := I.mem y (List.mem_append_left _ hy)
      have hlt : y.1 < i := hinc.2.2 y hy (i, o) (List.mem_cons_self ..)
      have hne : edgeOn ops i y.1 = false := by
        cases hb : edgeOn ops i y.1 with
        | false => rfl
        | true =>
          obtain ⟨o2, ho2, e, he, hbn, hek⟩ := edgeOn_spec.1 hb
          rw [ho] at ho2; cases ho2
          have h1 := hall e he hbn
          rw [hek] at h1
          rw [getD_ft h1] at y3
          cases y3
      refine ⟨hsel _ _ y1, ?_, hdst _ _ y1, ?_⟩
      · have := c3 i him y.1 hlt
        rw [hne] at this
        rcases this with h | h
        · cases h
        · unfold apartAt at h
          rw [y1, ho] at h
          exact h
      · by_cases k0 : kd y.1 = 0
        · exact .inr (.inl k0)
        · cases hlk : loudK (kd i) with
          | false =>
            unfold loudK at hlk
            split at hlk
            · rename_i h; exact .inl h
            · rename_i h; exact .inr (.inr h)
            · cases hlk
          | true =>
            have := loud_listed I hloud (i - y.1) i y.1 (Nat.le_refl _) hlt him hlk k0 (.inr hi)
            rw [getD_ft this] at y3
            cases y3) hf hM
    have I' := I.step hi
    have hlc : (l1 ++ l2).length = c := by simp at hc ⊢; omega
    have hlt2 : lt.length = (l1 ++ l2).length := by
      have : (x0 :: lt).length = (l1 ++ (i, o) :: l2).length := by rw [hl]
      simp at this ⊢; omega
    rw [hlt2]
    have hb := hM' ⟨D, F, w, a, H.2.1, H.2.2.1⟩
    have hwant : Region.wanted o (yielded ops a.tmps) = wantF ops f o := by rw [H.2.1.yield ops]; rfl
    unfold wpOp
    rw [ho]
    simp only
    rw [hwant]
    have next : ∀ (v : Value) (w' : World) (L' : List Assn), Rest w w' → Sats w' L' F → Fac Lb L' → Mix P n ops kd Lb (fun f L => ExL P n ops (ops.toList.drop m) Q f L) (l1 ++ l2) (updo f o.dst v) L' →
        wpAny P .any ops (Lift D n F w0 f0 ws Q) ((l1 ++ l2).length + (ops.size - m)) (listed.setIfInBounds i true) (a.put o.dst v) w' := fun v w' L' hr hs hf' hm' =>
      ih (l1 ++ l2) _ _ w' _ L' hlc I' (H.puto hr hs (hdst i o ho) (hwr i o ho) v) hf' hm'
    split
    · rename_i hw
      rw [if_pos hw] at hb
      refine .inl ?_
      unfold Oper.wp
      rw [H.2.1.eval]
      by_cases k0 : kd i = 0
      · rw [if_pos k0] at hb
        obtain ⟨v, hv, hm'⟩ := hb
        obtain ⟨HH, sH, hback⟩ := hf w F H.2.2.1
        rw [hv HH w sH]
        exact next v w L (Rest.refl w) H.2.2.1 hf hm'
      · rw [if_neg k0] at hb
        by_cases k1 : kd i = 1
        · rw [if_pos k1] at hb
          obtain ⟨obj, mk, hv, hm'⟩ := hb
          rw [hv w]
          exact next _ _ (Pt w.heap.size obj :: L) (Rest.refl w) (Sats.alloc obj H.2.2.1 rfl) (Fac.cons _ hf) (hm' w.heap.size)
        · rw [if_neg k1] at hb
          have hlw := hb F w0 w H.1 H.2.2.1
          have fin : ∀ v w', (∃ L2, Fac Lb L2 ∧ Rest w0 w' ∧ Sats w' L2 F ∧ Mix P n ops kd Lb (fun f L => ExL P n ops (ops.toList.drop m) Q f L) (l1 ++ l2) (updo f o.dst v) L2) →
              wpAny P .any ops (Lift D n F w0 f0 ws Q) ((l1 ++ l2).length + (ops.size - m)) (listed.setIfInBounds i true) (a.put o.dst v) w' := by
            rintro v w' ⟨L2, h1, h2, h3, h4⟩
            have hp := Here.puto (w' := w) H (Rest.refl w) H.2.2.1 (hdst i o ho) (hwr i o ho) v
            exact ih (l1 ++ l2) _ _ w' _ L2 hlc I' ⟨h2, hp.2.1, h3, hp.2.2.2⟩ h1 h4
          unfold LW at hlw
          generalize (execOp (evalF f) o).run P w = r at hlw ⊢
          cases r with
          | halt x w' => exact hlw.elim
          | ok nx w' =>
            cases nx with
            | value v => exact fin v w' hlw
            | skip => exact fin undef w' hlw
            | enter k args =>
              show Calls P k args w' _
              exact Calls.mono hlw fun e w2 ⟨v, he, hv⟩ => by subst he; exact fin v w2 hv
            | row r args =>
              show Rows P r args w' _
              exact Rows.mono hlw fun v w2 hv => fin v w2 hv
            | _ => exact hlw.elim
    · rename_i hw
      rw [if_neg hw] at hb
      exact next undef w L (Rest.refl w) H.2.2.1 hf hb
theorem idx_mem : ∀ {l : List Oper} {k : Nat} {x : Nat × Oper}, x ∈ idx k l → k ≤ x.1 ∧ x.1 < k + l.length ∧ l[x.1 - k]? = some x.2
  | [], _, _, h => by cases h
  | o :: l, k, x, h => by
    rcases List.mem_cons.1 h with e | e
    · subst e; simp
    · obtain ⟨h1, h2, h3⟩ := idx_mem e
      refine ⟨by omega, by simp; omega, ?_⟩
      rw [show x.1 - k = (x.1 - (k + 1)) + 1 by omega]
      simpa using h3
theorem idx_get : ∀ {l : List Oper} {k i : Nat} {o : Oper}, l[i]? = some o → (k + i, o) ∈ idx k l
  | [], _, _, _, h => by simp at h
  | p :: l, k, 0, o, h => by simp at h; subst h; exact List.mem_cons_self ..
  | p :: l, k, i + 1, o, h => by
    have := idx_get (k := k + 1) (show l[i]? = some o by simpa using h)
    rw [show k + (i + 1) = k + 1 + i by omega]
    exact List.mem_cons_of_mem _ this
theorem idx_inc : ∀ {l : List Oper} {k : Nat}, (idx k l).Pairwise fun x y => x.1 < y.1
  | [], _ => List.Pairwise.nil
  | o :: l, k => List.pairwise_cons.2 ⟨fun y hy => by have := (idx_mem hy).1; simp; omega, idx_inc⟩
/-- ONE WALK OF A REGION THAT DRAWS ITS ORDER: the first m operations in the words of Mix, the others one behind the other. -/
theorem Ex.mix {Q : Post} {f : Nat → Value} {L : List Assn} {id : Nat} (m : Nat) (kd : Nat → Nat) (Lb : List Assn) (hm : P.follows .mixedOrders = true) (hok : mixOk n ops kd m = true) (hf : Fac Lb L)
    (h : Mix P n ops kd Lb (fun f L => ExL P n ops (ops.toList.drop m) Q f L) (idx 0 (ops.toList.take m)) f L) : Ex P n (.region id ops true) Q f L := fun D F w0 f0 ws a w H hc => by
  have hk0 := hok
  simp only [mixOk, Bool.and_eq_true] at hk0
  have hms := Nat.le_of_ble_eq_true hk0.2
  refine wp_region_any hm ?_
  have hl : (idx 0 (ops.toList.take m)).length = m := by
    have : ∀ (l : List Oper) k, (idx k l).length = l.length := by
      intro l
      induction l with
      | nil => intro k; rfl
      | cons o l ih => intro k; simp [idx, ih]
    rw [this]; simp; omega
  have := wpAny_mix (P := P) (Q := Q) (F := F) (w0 := w0) (f0 := f0) (ws := ws) hok hc m (idx 0 (ops.toList.take m)) (Array.replicate ops.size false) a w.drew f L hl ⟨idx_inc, ?_, ?_, ?_, by simp, ?_⟩ ⟨H.1, H.2.1, Sats.drew H.2.2.1, H.2.2.2⟩ hf h
  · rw [hl, show m + (ops.size - m) = ops.size by omega] at this
    exact this
  · intro x hx
    obtain ⟨h1, h2, h3⟩ := idx_mem hx
    simp at h2 h3
    rw [List.getElem?_take] at h3
    split at h3
    · refine ⟨by simpa using h3, by omega, ?_⟩
      simp [Array.getD]; omega
    · cases h3
  · intro i hi _
    have hs : i < ops.size := by omega
    refine ⟨ops[i], ?_⟩
    have := idx_get (k := 0) (l := ops.toList.take m) (i := i) (o := ops[i]) (by rw [List.getElem?_take, if_pos hi]; simp [hs])
    simpa using this
  · intro i _ hi
    simp [Array.getD, hi]
  · intro x o ho hx
    exfalso
    have hs := (Array.getElem?_eq_some_iff.1 ho).1
    simp [Array.getD, hs] at hx
/-! The steps of such a walk. -/
section
variable {Z : (Nat → Value) → List Assn → Prop} {f : Nat → Value} {L : List Assn} {i : Nat} {o : Oper} {l : List (Nat × Oper)}
def mxEnd (P : Program) (n : Nat) (kd : Nat → Nat) (ops : Array Oper) (Lb : List Assn) (Z : (Nat → Value) → List Assn → Prop) (l : List (Nat × Oper)) : Post
  | .normal, f, L => Fac Lb L ∧ Mix P n ops kd Lb Z l f L
  | _, _, _ => False
theorem mx_nil (h : Z f L) : Mix P n ops kd Lb Z [] f L := fun _ => ⟨L, Sub.refl L, h⟩
theorem mx_val {v : Value} {d : Nat} (hk : kd i = 0) (hg : o.guard = none) (ho : o.dst = some d) (hv : Val P o f Lb v) (h : Mix P n ops kd Lb Z l (upd f d v) L) : Mix P n ops kd Lb Z ((i, o) :: l) f L := fun _ => by
  have hw : wantF ops f o = true := wanted_none hg
  rw [if_pos hw, if_pos hk]
  exact ⟨v, hv, by rw [ho]; exact h⟩
theorem yieldF_of {j s : Nat} {b : Bool} (hs : (ops[j]?).bind (·.dst) = some s) (hb : f s = .bool b) : yieldF ops f j = some b := by
  unfold yieldF; rw [hs]; simp only [hb]
theorem mx_gskip {j s : Nat} {want b : Bool} (hg : o.guard = some (j, want)) (hs : (ops[j]?).bind (·.dst) = some s) (hb : f s = .bool b) (hne : (b == want) = false) (h : Mix P n ops kd Lb Z l (updo f o.dst undef) L) : Mix P n ops kd Lb Z ((i, o) :: l) f L := fun _ => by
  have hw : wantF ops f o = false := by
    unfold wantF Region.wanted
    rw [hg]
    simp only [yieldF_of hs hb]
    cases b <;> cases want <;> simp_all
  rw [hw]
  exact h
theorem mx_gtake {j s : Nat} {want : Bool} (hg : o.guard = some (j, want)) (hs : (ops[j]?).bind (·.dst) = some s) (hb : f s = .bool want) (h : Mix P n ops kd Lb Z ((i, { o with guard := none }) :: l) f L) : Mix P n ops kd Lb Z ((i, o) :: l) f L := fun W => by
  have hw : wantF ops f o = true := by
    unfold wantF Region.wanted
    rw [hg]
    simp only [yieldF_of hs hb]
    simp
  have h1 := h W
  have hw' : wantF ops f { o with guard := none } = true := wanted_none rfl
  rw [hw'] at h1
  rw [hw]
  exact h1
theorem mx_eqv {f' : Nat → Value} (he : f = f') (h : Mix P n ops kd Lb Z l f' L) : Mix P n ops kd Lb Z l f L := he ▸ h
theorem mx_gsplit {j s : Nat} {want : Bool} {p : Prop} [Decidable p] (hg : o.guard = some (j, want)) (hs : (ops[j]?).bind (·.dst) = some s) (hb : f s = .bool (decide p))
    (ht : p → Mix P n ops kd Lb Z ((i, o) :: l) (upd f s (.bool true)) L) (hf : ¬p → Mix P n ops kd Lb Z ((i, o) :: l) (upd f s (.bool false)) L) : Mix P n ops kd Lb Z ((i, o) :: l) f L := by
  by_cases h : p
  · exact mx_eqv (upd_eq (by rw [hb, decide_eq_true h])) (ht h)
  · exact mx_eqv (upd_eq (by rw [hb, decide_eq_false h])) (hf h)
theorem mx_gsplitb {j s : Nat} {want b : Bool} (hg : o.guard = some (j, want)) (hs : (ops[j]?).bind (·.dst) = some s) (hb : f s = .bool b)
    (ht : b = true → Mix P n ops kd Lb Z ((i, o) :: l) (upd f s (.bool true)) L) (hf : b = false → Mix P n ops kd Lb Z ((i, o) :: l) (upd f s (.bool false)) L) : Mix P n ops kd Lb Z ((i, o) :: l) f L := by
  cases b with
  | true => exact mx_eqv (upd_eq hb) (ht rfl)
  | false => exact mx_eqv (upd_eq hb) (hf rfl)
/-- An operation that acts: by the steps of a walk of one operation. -/
theorem mx_act (hk : loudK (kd i) = true) (hg : o.guard = none) (hdo : dstOk n o.dst = true) (h : ExL P n ops [o] (mxEnd P n kd ops Lb Z l) f L) : Mix P n ops kd Lb Z ((i, o) :: l) f L := fun ⟨D, _, _, a, ag, _⟩ => by
  have hw : wantF ops f o = true := wanted_none hg
  have k0 : kd i ≠ 0 := fun e => by rw [e] at hk; simp [loudK] at hk
  have k1 : kd i ≠ 1 := fun e => by rw [e] at hk; simp [loudK] at hk
  rw [if_pos hw, if_neg k0, if_neg k1]
  intro F w0 w r s
  have h1 := h D F w0 f (fun _ => true) a w ⟨r, ag, s, fun t ht => by cases ht⟩ (fun _ _ => rfl)
  unfold wpList at h1
  rw [if_pos (wanted_none hg)] at h1
  have fin : ∀ (a2 : Act) (w2 : World), Lift D n F w0 f (fun _ => true) (mxEnd P n kd ops Lb Z l) .normal a2 w2 → ∃ f2 L2, Agree D n a2 f2 ∧ Rest w0 w2 ∧ Sats w2 L2 F ∧ Fac Lb L2 ∧ Mix P n ops kd Lb Z l f2 L2 := fun a2 w2 ⟨f2, L2, ⟨r2, ag2, s2, _⟩, q1, q2⟩ => ⟨f2, L2, ag2, r2, s2, q1, q2⟩
  have same : ∀ (v : Value) (f2 : Nat → Value), Agree D n (a.put o.dst v) f2 → f2 = updo f o.dst v := fun v f2 ag2 => by
    funext t
    rw [← ag2.2.2 t, (ag.puto hdo v).2.2 t]
  have fin2 : ∀ (v : Value) (w2 : World), Lift D n F w0 f (fun _ => true) (mxEnd P n kd ops Lb Z l) .normal (a.put o.dst v) w2 → ∃ L2, Fac Lb L2 ∧ Rest w0 w2 ∧ Sats w2 L2 F ∧ Mix P n ops kd Lb Z l (updo f o.dst v) L2 := fun v w2 hl => by
    obtain ⟨f2, L2, ag2, r2, s2, hf2, hm2⟩ := fin _ _ hl
    rw [same v f2 ag2] at hm2
    exact ⟨L2, hf2, r2, s2, hm2⟩
  rcases h1 with h1 | ⟨_, a2, w2, _, _, _, hq⟩
  · unfold Oper.wp at h1
    rw [ag.eval] at h1
    unfold LW
    generalize (execOp (evalF f) o).run P w = rr at h1 ⊢
    cases rr with
    | halt x w' =>
      cases x with
      | panic v => obtain ⟨_, _, _, hq⟩ := h1; exact hq.elim
      | _ => exact h1.elim
    | ok nx w' =>
      cases nx with
      | value v => exact fin2 v w' h1
      | skip => exact fin2 undef w' h1
      | defer dd =>
        obtain ⟨f2, L2, hh, _⟩ := (show Lift D n F w0 f (fun _ => true) (mxEnd P n kd ops Lb Z l) .normal _ _ from h1)
        have := hh.2.1.1
        have e2 := ag.1
        cases hd : o.dst <;> simp [Act.put, hd, e2] at this
      | enter k args =>
        show Calls P k args w' _
        refine Calls.mono h1 fun e w2 he => ?_
        cases e with
        | returned v => exact ⟨v, rfl, fin2 v w2 he⟩
        | panicked c => obtain ⟨_, _, _, hq⟩ := he; exact hq.elim
        | outgrown => obtain ⟨_, _, _, _, _, hq⟩ := he; exact hq.elim
      | row r args =>
        show Rows P r args w' _
        exact Rows.mono h1 fun v w2 hv => fin2 v w2 hv
      | _ => exact h1.elim
  · exact hq.elim
theorem mxEnd_n (hf : Fac Lb L) (h : Mix P n ops kd Lb Z l f L) : mxEnd P n kd ops Lb Z l .normal f L := ⟨hf, h⟩
/-- A new variable. -/
theorem mx_new {d : Nat} {obj : Obj} {mk : Nat → Value} (A : Nat → Assn) (hk : kd i = 1) (hg : o.guard = none) (ho : o.dst = some d) (hv : YA P f o obj mk) (ha : ∀ g, A g (Frag.one g obj)) (h : ∀ g, Mix P n ops kd Lb Z l (upd f d (mk g)) (A g :: L)) : Mix P n ops kd Lb Z ((i, o) :: l) f L := fun _ => by
  have hw : wantF ops f o = true := wanted_none hg
  rw [if_pos hw, if_neg (by rw [hk]; decide), if_pos hk]
  refine ⟨obj, mk, hv, fun g => ?_⟩
  rw [ho]
  exact Mix.sub (Sub.cons' (fun x hx => by rw [show x = Frag.one g obj from hx]; exact ha g) (Sub.refl L)) (h g)
end
end
end Go.Proofs.Ytkcpgdkchglhhaa
