/- Several texts, one behind the other; each says in its head what it proves. No condition. -/
import Derived.Test.YtcclbplccnaonaaZemefjcfc
import Derived.Lib.ConvBytes
import Derived.Laws.StructEq
import Derived.ChangeKeysEq
/- A region that draws its order: the theorem. No condition. -/
namespace Go.Proofs.Ytcclbplccnaonaa
open Go.RowKit
set_option linter.unusedSimpArgs false
set_option linter.unusedVariables false
def edgeOn (ops : Array Oper) (j k : Nat) : Bool := match ops[j]? with
  | some o => o.after.any fun e => Region.binds .any e && Nat.beq e.on k
  | none => false
def waits (ops : Array Oper) : Nat → Nat → Nat → Bool
  | 0, j, k => edgeOn ops j k
  | d + 1, j, k => edgeOn ops j k || match ops[j]? with
    | some o => o.after.any fun e => Region.binds .any e && waits ops d e.on k
    | none => false
def apartAt (ops : Array Oper) (k j : Nat) : Bool := match ops[k]?, ops[j]? with
  | some p, some o => p.apart ops o
  | _, _ => true
def loudK (x : Nat) : Bool := match x with
  | 0 => false
  | 1 => false
  | _ => true
def mixOk (n : Nat) (ops : Array Oper) (kd : Nat → Nat) (m : Nat) : Bool :=
  Region.noSelect ops &&
  (List.range ops.size).all (fun j => match ops[j]? with | some o => (o.after.all fun e => !Region.binds .any e || Nat.blt e.on j) && dstOk n o.dst | none => true) &&
  (List.range m).all (fun j => (List.range j).all fun k => edgeOn ops j k || apartAt ops k j) &&
  (List.range m).all (fun j => !loudK (kd j) || (List.range j).all fun k => Nat.beq (kd k) 0 || waits ops 4 j k || (List.range j).any fun x => Nat.blt k x && loudK (kd x)) &&
  (List.range ops.size).all (fun j => Nat.blt j m || match Nat.beq j m with | true => (List.range m).all fun k => edgeOn ops j k | false => edgeOn ops j (j - 1)) &&
  Nat.ble m ops.size
def idx : Nat → List Oper → List (Nat × Oper)
  | _, [] => []
  | k, o :: l => (k, o) :: idx (k + 1) l
section
variable {P : Program} {n : Nat} {ops : Array Oper} {kd : Nat → Nat} {Lb : List Assn} {m : Nat}
theorem edgeOn_spec {j k : Nat} : edgeOn ops j k = true ↔ ∃ o, ops[j]? = some o ∧ ∃ e ∈ o.after, Region.binds .any e = true ∧ e.on = k := by
  unfold edgeOn
  cases ho : ops[j]? with
  | none => simp
  | some o =>
    simp only [← Array.any_toList, List.any_eq_true, Array.mem_toList_iff, Bool.and_eq_true, Option.some.injEq, exists_eq_left']
    exact ⟨fun ⟨e, h1, h2, h3⟩ => ⟨e, h1, h2, Nat.eq_of_beq_eq_true h3⟩, fun ⟨e, h1, h2, h3⟩ => ⟨e, h1, h2, by rw [h3]; simp⟩⟩
structure Inv (ops : Array Oper) (m : Nat) (listed : Array Bool) (l : List (Nat × Oper)) : Prop where
  inc : l.Pairwise fun x y => x.1 < y.1
  mem : ∀ x ∈ l, ops[x.1]? = some x.2 ∧ x.1 < m ∧ listed.getD x.1 true = false
  all : ∀ i, i < m → listed.getD i true = false → ∃ o, (i, o) ∈ l
  back : ∀ i, m ≤ i → i < ops.size → listed.getD i true = false
  size : listed.size = ops.size
  closed : ∀ x o, ops[x]? = some o → listed.getD x false = true → ∀ e ∈ o.after, Region.binds .any e = true → listed.getD e.on false = true
theorem getD_tf {listed : Array Bool} {i : Nat} (h : listed.getD i true = false) : listed.getD i false = false := by
  by_cases hl : i < listed.size
  · simp [Array.getD, hl] at h ⊢; exact h
  · simp [Array.getD, hl] at h
theorem getD_ft {listed : Array Bool} {i : Nat} (h : listed.getD i false = true) : listed.getD i true = true := by
  by_cases hl : i < listed.size
  · simp [Array.getD, hl] at h ⊢; exact h
  · simp [Array.getD, hl]
theorem waits_listed {listed : Array Bool} {l : List (Nat × Oper)} (I : Inv ops m listed l) : ∀ (d j k : Nat), waits ops d j k = true → (listed.getD j false = true ∨ j ∈ Region.ready .any ops listed) → listed.getD k false = true := by
  have direct : ∀ (j k : Nat) (o : Oper) (e : Edge), ops[j]? = some o → e ∈ o.after → Region.binds .any e = true → e.on = k → (listed.getD j false = true ∨ j ∈ Region.ready .any ops listed) → listed.getD k false = true := by
    intro j k o e ho he hb hk h
    subst hk
    rcases h with h | h
    · exact I.closed j o ho h e he hb
    · obtain ⟨_, o', ho', hall⟩ := mem_ready.1 h
      rw [ho] at ho'; cases ho'
      exact hall e he hb
  intro d
  induction d with
  | zero =>
    intro j k hw h
    obtain ⟨o, ho, e, he, hb, hk⟩ := edgeOn_spec.1 hw
    exact direct j k o e ho he hb hk h
  | succ d ih =>
    intro j k hw h
    simp only [waits, Bool.or_eq_true] at hw
    rcases hw with hw | hw
    · obtain ⟨o, ho, e, he, hb, hk⟩ := edgeOn_spec.1 hw
      exact direct j k o e ho he hb hk h
    · cases ho : ops[j]? with
      | none => rw [ho] at hw; simp at hw
      | some o =>
        rw [ho] at hw
        simp only [← Array.any_toList, List.any_eq_true, Array.mem_toList_iff, Bool.and_eq_true] at hw
        obtain ⟨e, he, hb, hw⟩ := hw
        exact ih e.on k hw (.inl (direct j e.on o e ho he hb rfl h))
theorem loud_listed {listed : Array Bool} {l : List (Nat × Oper)} (I : Inv ops m listed l)
    (hc : ∀ j, j < m → loudK (kd j) = true → ∀ k, k < j → kd k = 0 ∨ waits ops 4 j k = true ∨ ∃ x, x < j ∧ k < x ∧ loudK (kd x) = true) :
    ∀ (d j k : Nat), j - k ≤ d → k < j → j < m → loudK (kd j) = true → kd k ≠ 0 → (listed.getD j false = true ∨ j ∈ Region.ready .any ops listed) → listed.getD k false = true := by
  intro d
  induction d with
  | zero => intro j k h1 h2; omega
  | succ d ih =>
    intro j k h1 h2 hj hl hk h
    rcases hc j hj hl k h2 with h0 | h0 | ⟨x, hx, hkx, hlx⟩
    · exact absurd h0 hk
    · exact waits_listed I 4 j k h0 h
    · have hx0 : kd x ≠ 0 := by intro e; rw [e] at hlx; simp [loudK] at hlx
      have := ih j x (by omega) hx hj hl hx0 h
      exact ih x k (by omega) hkx (by omega) hlx hk (.inl this)
variable {Z : (Nat → Value) → List Assn → Prop}
theorem Mix.front {i : Nat} {o : Oper} {l2 : List (Nat × Oper)} (hso : ∀ cs b, o.op ≠ .select cs b) (hdo : dstOk n o.dst = true) : ∀ (l1 : List (Nat × Oper)), (∀ x ∈ l1, (∀ cs b, x.2.op ≠ .select cs b) ∧ x.2.apart ops o = true ∧ dstOk n x.2.dst = true ∧ (kd i = 0 ∨ kd x.1 = 0 ∨ kd i = 1)) →
    ∀ {f : Nat → Value} {L : List Assn}, Fac Lb L → Mix P n ops kd Lb Z (l1 ++ (i, o) :: l2) f L → Mix P n ops kd Lb Z ((i, o) :: (l1 ++ l2)) f L
  | [], _, f, L, _, h => h
  | (k, p) :: l1, hall, f, L, hf, h => by
    obtain ⟨h1, h2, h3, h4⟩ := hall (k, p) (List.mem_cons_self ..)
    refine Mix.swap h1 hso h2 h3 hdo h4 hf ?_
    exact Mix.tail (fun f L hf h => Mix.front hso hdo l1 (fun x hx => hall x (List.mem_cons_of_mem _ hx)) hf h) hf h
theorem Inv.step {listed : Array Bool} {l1 l2 : List (Nat × Oper)} {i : Nat} {o : Oper} (I : Inv ops m listed (l1 ++ (i, o) :: l2)) (hi : i ∈ Region.ready .any ops listed) : Inv ops m (listed.setIfInBounds i true) (l1 ++ l2) := by
  have hinc := I.inc
  rw [List.pairwise_append, List.pairwise_cons] at hinc
  obtain ⟨p1, ⟨p2, p3⟩, p4⟩ := hinc
  obtain ⟨hmi, him, hli⟩ := I.mem (i, o) (by simp)
  refine ⟨?_, ?_, ?_, ?_, ?_, ?_⟩
  · rw [List.pairwise_append]
    exact ⟨p1, p3, fun a ha b hb => p4 a ha b (List.mem_cons_of_mem _ hb)⟩
  · intro x hx
    have hx' : x ∈ l1 ++ (i, o) :: l2 := by
      rw [List.mem_append] at hx ⊢
      rcases hx with h | h
      · exact .inl h
      · exact .inr (List.mem_cons_of_mem _ h)
    obtain ⟨h1, h2, h3⟩ := I.mem x hx'
    refine ⟨h1, h2, ?_⟩
    have hne : i ≠ x.1 := by
      rw [List.mem_append] at hx
      rcases hx with h | h
      · have := p4 x h (i, o) (List.mem_cons_self ..); simp at this; omega
      · have := p2 x h; simp at this; omega
    rw [getD_set_ne true hne]; exact h3
  · intro j hj hl
    by_cases hji : i = j
    · subst hji
      have hs : i < listed.size := by rw [I.size]; exact (Array.getElem?_eq_some_iff.1 hmi).1
      simp [Array.getD, hs] at hl
    · rw [getD_set_ne true hji] at hl
      obtain ⟨o', h⟩ := I.all j hj hl
      refine ⟨o', ?_⟩
      rw [List.mem_append, List.mem_cons] at h
      rw [List.mem_append]
      rcases h with h | h | h
      · exact .inl h
      · cases h; exact absurd rfl hji
      · exact .inr h
  · intro j h1 h2
    rw [getD_set_ne true (by simp at him; omega)]
    exact I.back j h1 h2
  · simpa using I.size
  · intro x o' ho hl e he hb
    by_cases hxi : i = x
    · subst hxi
      obtain ⟨_, o2, ho2, hall⟩ := mem_ready.1 hi
      rw [ho] at ho2; cases ho2
      exact getD_set_true (hall e he hb)
    · rw [getD_set_ne false hxi] at hl
      exact getD_set_true (I.closed x o' ho hl e he hb)
theorem wpAny_tail {Q : Exit → Act → World → Prop} : ∀ (tl : List Oper) (m : Nat) (listed : Array Bool) (a : Act) (w : World), (∀ j, tl[j]? = ops[m + j]?) → m + tl.length = ops.size → listed.size = ops.size → (∀ i, i < m → listed.getD i false = true) → (∀ i, m ≤ i → i < ops.size → listed.getD i true = false) →
    (∀ j o, ops[j]? = some o → ∀ e ∈ o.after, Region.binds .any e = true → e.on < j) → (∀ j, m < j → j < ops.size → edgeOn ops j (j - 1) = true) → wpList P ops Q tl a w → wpAny P .any ops Q tl.length listed a w
  | [], m, listed, a, w, htl, hlen, hsz, hl, hb, hlex, hed, h => by
    refine ⟨?_, h⟩
    rw [List.eq_nil_iff_forall_not_mem]
    intro i hi
    obtain ⟨h0, o, ho, _⟩ := mem_ready.1 hi
    have hi' := (Array.getElem?_eq_some_iff.1 ho).1
    have := hl i (by simp at hlen; omega)
    rw [getD_ft this] at h0
    cases h0
  | o :: tl, m, listed, a, w, htl, hlen, hsz, hl, hb, hlex, hed, h => by
    have hm : m < ops.size := by simp at hlen; omega
    have ho : ops[m]? = some o := by simpa using (htl 0).symm
    have hrm : m ∈ Region.ready .any ops listed := mem_ready.2 ⟨hb m (Nat.le_refl _) hm, o, ho, fun e he hbn => hl _ (hlex m o ho e he hbn)⟩
    refine ⟨fun h0 => (by rw [h0] at hrm; cases hrm), fun i hi => ?_⟩
    have him : i = m := by
      obtain ⟨h0, o', ho', hall⟩ := mem_ready.1 hi
      have hi' := (Array.getElem?_eq_some_iff.1 ho').1
      rcases Nat.lt_trichotomy i m with hlt | he | hgt
      · have := hl i hlt; rw [getD_ft this] at h0; cases h0
      · exact he
      · obtain ⟨o2, ho2, e, he, hbn, hek⟩ := edgeOn_spec.1 (hed i hgt hi')
        rw [ho'] at ho2; cases ho2
        have h1 := hall e he hbn
        rw [hek] at h1
        have := hb (i - 1) (by omega) (by omega)
        rw [getD_ft h1] at this
        cases this
    subst him
    have ih : ∀ a w, wpList P ops Q tl a w → wpAny P .any ops Q tl.length (listed.setIfInBounds i true) a w := fun a w h => by
      refine wpAny_tail tl (i + 1) _ a w (fun j => by have := htl (j + 1); simpa [Nat.add_assoc, Nat.add_comm 1 j] using this) (by simp at hlen ⊢; omega) (by simpa using hsz) ?_ ?_ hlex (fun j h1 h2 => hed j (by omega) h2) h
      · intro k hk
        by_cases hki : i = k
        · subst hki; simp [Array.getD, hsz, hm]
        · rw [getD_set_ne false hki]; exact hl k (by omega)
      · intro k h1 h2
        rw [getD_set_ne true (by omega)]; exact hb k (by omega) h2
    unfold wpOp
    rw [ho]
    simp only
    unfold wpList at h
    split
    · rename_i hw; rw [if_pos hw] at h; exact h.imp (Oper.wp_mono ih) id
    · rename_i hw; rw [if_neg hw] at h; exact ih _ _ h
theorem mem_writesL_iff {t : Nat} : ∀ {l : List Oper}, t ∈ writesL l ↔ ∃ o ∈ l, o.dst = some t
  | [] => by simp [writesL]
  | o :: l => by
    unfold writesL
    have ih := mem_writesL_iff (t := t) (l := l)
    cases hd : o.dst with
    | none => simp [ih, hd]
    | some d => simp [ih, hd, eq_comm]
theorem mem_split_l {α : Type} {x : α} {l : List α} (h : x ∈ l) : ∃ l1 l2, l = l1 ++ x :: l2 := List.append_of_mem h
theorem wpAny_mix {Q : Post} {D : List Deferred} {F : Frag} {w0 : World} {f0 : Nat → Value} {ws : Nat → Bool} (hok : mixOk n ops kd m = true) (hws : ∀ d, d ∈ writesL ops.toList → ws d = true) :
    ∀ (c : Nat) (l : List (Nat × Oper)) (listed : Array Bool) (a : Act) (w : World) (f : Nat → Value) (L : List Assn), l.length = c → Inv ops m listed l → Here D n F w0 f0 ws a w f L → Fac Lb L →
      Mix P n ops kd Lb (fun f L => ExL P n ops (ops.toList.drop m) Q f L) l f L → wpAny P .any ops (Lift D n F w0 f0 ws Q) (l.length + (ops.size - m)) listed a w := by
  have hk0 := hok
  simp only [mixOk, Bool.and_eq_true, List.all_eq_true, List.mem_range, Bool.or_eq_true, Bool.not_eq_true'] at hk0
  obtain ⟨⟨⟨⟨⟨c1, c2⟩, c3⟩, c4⟩, c5⟩, c6⟩ := hk0
  have hm := Nat.le_of_ble_eq_true c6
  have hsel : ∀ (j : Nat) (o : Oper), ops[j]? = some o → ∀ cs b, o.op ≠ .select cs b := fun j o h cs b => Region.noSelect_spec c1 j o cs b h
  have hlex : ∀ j o, ops[j]? = some o → ∀ e ∈ o.after, Region.binds .any e = true → e.on < j := fun j o ho e he hb => by
    have := c2 j (Array.getElem?_eq_some_iff.1 ho).1
    rw [ho] at this
    simp only [Bool.and_eq_true] at this
    have h1 := this.1
    rw [← Array.all_toList, List.all_eq_true] at h1
    have h2 := h1 e (Array.mem_toList_iff.2 he)
    rw [hb] at h2
    simp at h2
    exact h2
  have hdst : ∀ (j : Nat) (o : Oper), ops[j]? = some o → dstOk n o.dst = true := fun j o ho => by
    have := c2 j (Array.getElem?_eq_some_iff.1 ho).1
    rw [ho] at this
    simp only [Bool.and_eq_true] at this
    exact this.2
  have hwr : ∀ (j : Nat) (o : Oper), ops[j]? = some o → ∀ t, o.dst = some t → ws t = true := fun j o ho t ht =>
    hws t (mem_writesL_iff.2 ⟨o, Array.mem_toList_iff.2 (Array.mem_of_getElem? ho), ht⟩)
  have hloud : ∀ j, j < m → loudK (kd j) = true → ∀ k, k < j → kd k = 0 ∨ waits ops 4 j k = true ∨ ∃ x, x < j ∧ k < x ∧ loudK (kd x) = true := fun j hj hl k hk => by
    rcases c4 j hj with h | h
    · rw [hl] at h; cases h
    · rcases h k hk with (h | h) | h
      · exact .inl (Nat.eq_of_beq_eq_true h)
      · exact .inr (.inl h)
      · simp only [List.any_eq_true, List.mem_range, Bool.and_eq_true] at h
        obtain ⟨x, hx, hkx, hlx⟩ := h
        exact .inr (.inr ⟨x, hx, by simpa using hkx, hlx⟩)
  have htail1 : m < ops.size → ∀ k, k < m → edgeOn ops m k = true := fun h2 k hk => by
    rcases c5 m h2 with h | h
    · have := Nat.le_of_ble_eq_true h; omega
    · rw [Nat.beq_refl] at h
      exact List.all_eq_true.1 h k (List.mem_range.2 hk)
  have htail : ∀ j, m < j → j < ops.size → edgeOn ops j (j - 1) = true := fun j h1 h2 => by
    rcases c5 j h2 with h | h
    · have := Nat.le_of_ble_eq_true h; omega
    · have : Nat.beq j m = false := by cases hq : Nat.beq j m with | false => rfl | true => (have := Nat.eq_of_beq_eq_true hq; omega)
      rw [this] at h
      exact h
  intro c
  induction c with
  | zero =>
    intro l listed a w f L hc I H hf hM
    have hl : l = [] := List.eq_nil_of_length_eq_zero hc
    subst hl
    obtain ⟨L2, hs, hx⟩ := hM ⟨D, F, w, a, H.2.1, H.2.2.1⟩
    have hw := hx D F w0 f0 ws a w ⟨H.1, H.2.1, hs w F H.2.2.1, H.2.2.2⟩ (fun d hd => by
      obtain ⟨o, ho, hod⟩ := mem_writesL_iff.1 hd
      exact hws d (mem_writesL_iff.2 ⟨o, List.mem_of_mem_drop ho, hod⟩))
    have := wpAny_tail (P := P) (ops := ops) (Q := Lift D n F w0 f0 ws Q) (ops.toList.drop m) m listed a w (fun j => by simp) (by simp; omega) I.size (fun i hi => by
      cases hb : listed.getD i false with
      | true => rfl
      | false =>
        have hit : listed.getD i true = false := by
          have hs2 : i < listed.size := by rw [I.size]; omega
          simp [Array.getD, hs2] at hb ⊢; exact hb
        obtain ⟨o, ho⟩ := I.all i hi hit
        cases ho) I.back hlex htail hw
    simpa using this
  | succ c ih =>
    intro l listed a w f L hc I H hf hM
    obtain ⟨x0, lt, rfl⟩ : ∃ x0 lt, l = x0 :: lt := by
      cases l with
      | nil => simp at hc
      | cons x0 lt => exact ⟨x0, lt, rfl⟩
    obtain ⟨h01, h02, h03⟩ := I.mem x0 (List.mem_cons_self ..)
    have hlow : ∀ k, k < x0.1 → listed.getD k false = true := fun k hk => by
      cases hb : listed.getD k false with
      | true => rfl
      | false =>
        have hs2 : k < listed.size := by rw [I.size]; omega
        have hit : listed.getD k true = false := by simp [Array.getD, hs2] at hb ⊢; exact hb
        obtain ⟨o, ho⟩ := I.all k (by omega) hit
        rcases List.mem_cons.1 ho with e | e
        · rw [← e] at hk; simp at hk
        · have := (List.pairwise_cons.1 I.inc).1 _ e
          simp at this; omega
    have hr0 : x0.1 ∈ Region.ready .any ops listed := mem_ready.2 ⟨h03, x0.2, h01, fun e he hb => hlow _ (hlex _ _ h01 e he hb)⟩
    have hlen : (x0 :: lt).length + (ops.size - m) = lt.length + (ops.size - m) + 1 := by simp; omega
    rw [hlen]
    refine ⟨fun h0 => (by rw [h0] at hr0; cases hr0), fun i hi => ?_⟩
    obtain ⟨hli, o, ho, hall⟩ := mem_ready.1 hi
    have hisz := (Array.getElem?_eq_some_iff.1 ho).1
    have him : i < m := by
      rcases Nat.lt_or_ge i m with h | h
      · exact h
      · exfalso
        rcases Nat.eq_or_lt_of_le h with h | h
        · subst h
          obtain ⟨o2, ho2, e, he, hbn, hek⟩ := edgeOn_spec.1 (htail1 hisz x0.1 (by omega))
          rw [ho] at ho2; cases ho2
          have h1 := hall e he hbn
          rw [hek] at h1
          rw [getD_ft h1] at h03
          cases h03
        · obtain ⟨o2, ho2, e, he, hbn, hek⟩ := edgeOn_spec.1 (htail i h hisz)
          rw [ho] at ho2; cases ho2
          have h1 := hall e he hbn
          rw [hek] at h1
          have := I.back (i - 1) (by omega) (by omega)
          rw [getD_ft h1] at this
          cases this
    obtain ⟨o', hmem⟩ := I.all i him hli
    obtain ⟨hoo, _, _⟩ := I.mem _ hmem
    simp only at hoo
    rw [ho] at hoo
    cases hoo
    obtain ⟨l1, l2, hl⟩ := mem_split_l hmem
    rw [hl] at I hM hc
    have hinc := I.inc
    rw [List.pairwise_append, List.pairwise_cons] at hinc
    have hM' := Mix.front (hsel i o ho) (hdst i o ho) l1 (fun y hy => by
      obtain ⟨y1, y2, y3⟩ := I.mem y (List.mem_append_left _ hy)
      have hlt : y.1 < i := hinc.2.2 y hy (i, o) (List.mem_cons_self ..)
      have hne : edgeOn ops i y.1 = false := by
        cases hb : edgeOn ops i y.1 with
        | false => rfl
        | true =>
          obtain ⟨o2, ho2, e, he, hbn, hek⟩ := edgeOn_spec.1 hb
          rw [ho] at ho2; cases ho2
          have h1 := hall e he hbn
          rw [hek] at h1
          rw [getD_ft h1] at y3
          cases y3
      refine ⟨hsel _ _ y1, ?_, hdst _ _ y1, ?_⟩
      · have := c3 i him y.1 hlt
        rw [hne] at this
        rcases this with h | h
        · cases h
        · unfold apartAt at h
          rw [y1, ho] at h
          exact h
      · by_cases k0 : kd y.1 = 0
        · exact .inr (.inl k0)
        · cases hlk : loudK (kd i) with
          | false =>
            unfold loudK at hlk
            split at hlk
            · rename_i h; exact .inl h
            · rename_i h; exact .inr (.inr h)
            · cases hlk
          | true =>
            have := loud_listed I hloud (i - y.1) i y.1 (Nat.le_refl _) hlt him hlk k0 (.inr hi)
            rw [getD_ft this] at y3
            cases y3) hf hM
    have I' := I.step hi
    have hlc : (l1 ++ l2).length = c := by simp at hc ⊢; omega
    have hlt2 : lt.length = (l1 ++ l2).length := by
      have : (x0 :: lt).length = (l1 ++ (i, o) :: l2).length := by rw [hl]
      simp at this ⊢; omega
    rw [hlt2]
    have hb := hM' ⟨D, F, w, a, H.2.1, H.2.2.1⟩
    have hwant : Region.wanted o (yielded ops a.tmps) = wantF ops f o := by rw [H.2.1.yield ops]; rfl
    unfold wpOp
    rw [ho]
    simp only
    rw [hwant]
    have next : ∀ (v : Value) (w' : World) (L' : List Assn), Rest w w' → Sats w' L' F → Fac Lb L' → Mix P n ops kd Lb (fun f L => ExL P n ops (ops.toList.drop m) Q f L) (l1 ++ l2) (updo f o.dst v) L' →
        wpAny P .any ops (Lift D n F w0 f0 ws Q) ((l1 ++ l2).length + (ops.size - m)) (listed.setIfInBounds i true) (a.put o.dst v) w' := fun v w' L' hr hs hf' hm' =>
      ih (l1 ++ l2) _ _ w' _ L' hlc I' (H.puto hr hs (hdst i o ho) (hwr i o ho) v) hf' hm'
    split
    · rename_i hw
      rw [if_pos hw] at hb
      refine .inl ?_
      unfold Oper.wp
      rw [H.2.1.eval]
      by_cases k0 : kd i = 0
      · rw [if_pos k0] at hb
        obtain ⟨v, hv, hm'⟩ := hb
        obtain ⟨HH, sH, hback⟩ := hf w F H.2.2.1
        rw [hv HH w sH]
        exact next v w L (Rest.refl w) H.2.2.1 hf hm'
      · rw [if_neg k0] at hb
        by_cases k1 : kd i = 1
        · rw [if_pos k1] at hb
          obtain ⟨obj, mk, hv, hm'⟩ := hb
          rw [hv w]
          exact next _ _ (Pt w.heap.size obj :: L) (Rest.refl w) (Sats.alloc obj H.2.2.1 rfl) (Fac.cons _ hf) (hm' w.heap.size)
        · rw [if_neg k1] at hb
          have hlw := hb F w0 w H.1 H.2.2.1
          have fin : ∀ v w', (∃ L2, Fac Lb L2 ∧ Rest w0 w' ∧ Sats w' L2 F ∧ Mix P n ops kd Lb (fun f L => ExL P n ops (ops.toList.drop m) Q f L) (l1 ++ l2) (updo f o.dst v) L2) →
              wpAny P .any ops (Lift D n F w0 f0 ws Q) ((l1 ++ l2).length + (ops.size - m)) (listed.setIfInBounds i true) (a.put o.dst v) w' := by
            rintro v w' ⟨L2, h1, h2, h3, h4⟩
            have hp := Here.puto (w' := w) H (Rest.refl w) H.2.2.1 (hdst i o ho) (hwr i o ho) v
            exact ih (l1 ++ l2) _ _ w' _ L2 hlc I' ⟨h2, hp.2.1, h3, hp.2.2.2⟩ h1 h4
          unfold LW at hlw
          generalize (execOp (evalF f) o).run P w = r at hlw ⊢
          cases r with
          | halt x w' => exact hlw.elim
          | ok nx w' =>
            cases nx with
            | value v => exact fin v w' hlw
            | skip => exact fin undef w' hlw
            | enter k args =>
              show Calls P k args w' _
              exact Calls.mono hlw fun e w2 ⟨v, he, hv⟩ => by subst he; exact fin v w2 hv
            | row r args =>
              show Rows P r args w' _
              exact Rows.mono hlw fun v w2 hv => fin v w2 hv
            | _ => exact hlw.elim
    · rename_i hw
      rw [if_neg hw] at hb
      exact next undef w L (Rest.refl w) H.2.2.1 hf hb
theorem idx_mem : ∀ {l : List Oper} {k : Nat} {x : Nat × Oper}, x ∈ idx k l → k ≤ x.1 ∧ x.1 < k + l.length ∧ l[x.1 - k]? = some x.2
  | [], _, _, h => by cases h
  | o :: l, k, x, h => by
    rcases List.mem_cons.1 h with e | e
    · subst e; simp
    · obtain ⟨h1, h2, h3⟩ := idx_mem e
      refine ⟨by omega, by simp; omega, ?_⟩
      rw [show x.1 - k = (x.1 - (k + 1)) + 1 by omega]
      simpa using h3
theorem idx_get : ∀ {l : List Oper} {k i : Nat} {o : Oper}, l[i]? = some o → (k + i, o) ∈ idx k l
  | [], _, _, _, h => by simp at h
  | p :: l, k, 0, o, h => by simp at h; subst h; exact List.mem_cons_self ..
  | p :: l, k, i + 1, o, h => by
    have := idx_get (k := k + 1) (show l[i]? = some o by simpa using h)
    rw [show k + (i + 1) = k + 1 + i by omega]
    exact List.mem_cons_of_mem _ this
theorem idx_inc : ∀ {l : List Oper} {k : Nat}, (idx k l).Pairwise fun x y => x.1 < y.1
  | [], _ => List.Pairwise.nil
  | o :: l, k => List.pairwise_cons.2 ⟨fun y hy => by have := (idx_mem hy).1; simp; omega, idx_inc⟩
/-- ONE WALK OF A REGION THAT DRAWS ITS ORDER: the first m operations in the words of Mix, the others one behind the other. -/
theorem Ex.mix {Q : Post} {f : Nat → Value} {L : List Assn} {id : Nat} (m : Nat) (kd : Nat → Nat) (Lb : List Assn) (hm : P.follows .mixedOrders = true) (hok : mixOk n ops kd m = true) (hf : Fac Lb L)
    (h : Mix P n ops kd Lb (fun f L => ExL P n ops (ops.toList.drop m) Q f L) (idx 0 (ops.toList.take m)) f L) : Ex P n (.region id ops true) Q f L := fun D F w0 f0 ws a w H hc => by
  have hk0 := hok
  simp only [mixOk, Bool.and_eq_true] at hk0
  have hms := Nat.le_of_ble_eq_true hk0.2
  refine wp_region_any hm ?_
  have hl : (idx 0 (ops.toList.take m)).length = m := by
    have : ∀ (l : List Oper) k, (idx k l).length = l.length := by
      intro l
      induction l with
      | nil => intro k; rfl
      | cons o l ih => intro k; simp [idx, ih]
    rw [this]; simp; omega
  have := wpAny_mix (P := P) (Q := Q) (F := F) (w0 := w0) (f0 := f0) (ws := ws) hok hc m (idx 0 (ops.toList.take m)) (Array.replicate ops.size false) a w.drew f L hl ⟨idx_inc, ?_, ?_, ?_, by simp, ?_⟩ ⟨H.1, H.2.1, Sats.drew H.2.2.1, H.2.2.2⟩ hf h
  · rw [hl, show m + (ops.size - m) = ops.size by omega] at this
    exact this
  · intro x hx
    obtain ⟨h1, h2, h3⟩ := idx_mem hx
    simp at h2 h3
    rw [List.getElem?_take] at h3
    split at h3
    · refine ⟨by simpa using h3, by omega, ?_⟩
      simp [Array.getD]; omega
    · cases h3
  · intro i hi _
    have hs : i < ops.size := by omega
    refine ⟨ops[i], ?_⟩
    have := idx_get (k := 0) (l := ops.toList.take m) (i := i) (o := ops[i]) (by rw [List.getElem?_take, if_pos hi]; simp [hs])
    simpa using this
  · intro i _ hi
    simp [Array.getD, hi]
  · intro x o ho hx
    exfalso
    have hs := (Array.getElem?_eq_some_iff.1 ho).1
    simp [Array.getD, hs] at hx
/-! The steps of such a walk. -/
section
variable {Z : (Nat → Value) → List Assn → Prop} {f : Nat → Value} {L : List Assn} {i : Nat} {o : Oper} {l : List (Nat × Oper)}
def mxEnd (P : Program) (n : Nat) (kd : Nat → Nat) (ops : Array Oper) (Lb : List Assn) (Z : (Nat → Value) → List Assn → Prop) (l : List (Nat × Oper)) : Post
  | .normal, f, L => Fac Lb L ∧ Mix P n ops kd Lb Z l f L
  | _, _, _ => False
theorem mx_nil (h : Z f L) : Mix P n ops kd Lb Z [] f L := fun _ => ⟨L, Sub.refl L, h⟩
theorem mx_val {v : Value} {d : Nat} (hk : kd i = 0) (hg : o.guard = none) (ho : o.dst = some d) (hv : Val P o f Lb v) (h : Mix P n ops kd Lb Z l (upd f d v) L) : Mix P n ops kd Lb Z ((i, o) :: l) f L := fun _ => by
  have hw : wantF ops f o = true := wanted_none hg
  rw [if_pos hw, if_pos hk]
  exact ⟨v, hv, by rw [ho]; exact h⟩
theorem yieldF_of {j s : Nat} {b : Bool} (hs : (ops[j]?).bind (·.dst) = some s) (hb : f s = .bool b) : yieldF ops f j = some b := by
  unfold yieldF; rw [hs]; simp only [hb]
theorem mx_gskip {j s : Nat} {want b : Bool} (hg : o.guard = some (j, want)) (hs : (ops[j]?).bind (·.dst) = some s) (hb : f s = .bool b) (hne : (b == want) = false) (h : Mix P n ops kd Lb Z l (updo f o.dst undef) L) : Mix P n ops kd Lb Z ((i, o) :: l) f L := fun _ => by
  have hw : wantF ops f o = false := by
    unfold wantF Region.wanted
    rw [hg]
    simp only [yieldF_of hs hb]
    cases b <;> cases want <;> simp_all
  rw [hw]
  exact h
theorem mx_gtake {j s : Nat} {want : Bool} (hg : o.guard = some (j, want)) (hs : (ops[j]?).bind (·.dst) = some s) (hb : f s = .bool want) (h : Mix P n ops kd Lb Z ((i, { o with guard := none }) :: l) f L) : Mix P n ops kd Lb Z ((i, o) :: l) f L := fun W => by
  have hw : wantF ops f o = true := by
    unfold wantF Region.wanted
    rw [hg]
    simp only [yieldF_of hs hb]
    simp
  have h1 := h W
  have hw' : wantF ops f { o with guard := none } = true := wanted_none rfl
  rw [hw'] at h1
  rw [hw]
  exact h1
theorem mx_eqv {f' : Nat → Value} (he : f = f') (h : Mix P n ops kd Lb Z l f' L) : Mix P n ops kd Lb Z l f L := he ▸ h
theorem mx_gsplit {j s : Nat} {want : Bool} {p : Prop} [Decidable p] (hg : o.guard = some (j, want)) (hs : (ops[j]?).bind (·.dst) = some s) (hb : f s = .bool (decide p))
    (ht : p → Mix P n ops kd Lb Z ((i, o) :: l) (upd f s (.bool true)) L) (hf : ¬p → Mix P n ops kd Lb Z ((i, o) :: l) (upd f s (.bool false)) L) : Mix P n ops kd Lb Z ((i, o) :: l) f L := by
  by_cases h : p
  · exact mx_eqv (upd_eq (by rw [hb, decide_eq_true h])) (ht h)
  · exact mx_eqv (upd_eq (by rw [hb, decide_eq_false h])) (hf h)
theorem mx_gsplitb {j s : Nat} {want b : Bool} (hg : o.guard = some (j, want)) (hs : (ops[j]?).bind (·.dst) = some s) (hb : f s = .bool b)
    (ht : b = true → Mix P n ops kd Lb Z ((i, o) :: l) (upd f s (.bool true)) L) (hf : b = false → Mix P n ops kd Lb Z ((i, o) :: l) (upd f s (.bool false)) L) : Mix P n ops kd Lb Z ((i, o) :: l) f L := by
  cases b with
  | true => exact mx_eqv (upd_eq hb) (ht rfl)
  | false => exact mx_eqv (upd_eq hb) (hf rfl)
/-- An operation that acts: by the steps of a walk of one operation. -/
theorem mx_act (hk : loudK (kd i) = true) (hg : o.guard = none) (hdo : dstOk n o.dst = true) (h : ExL P n ops [o] (mxEnd P n kd ops Lb Z l) f L) : Mix P n ops kd Lb Z ((i, o) :: l) f L := fun ⟨D, _, _, a, ag, _⟩ => by
  have hw : wantF ops f o = true := wanted_none hg
  have k0 : kd i ≠ 0 := fun e => by rw [e] at hk; simp [loudK] at hk
  have k1 : kd i ≠ 1 := fun e => by rw [e] at hk; simp [loudK] at hk
  rw [if_pos hw, if_neg k0, if_neg k1]
  intro F w0 w r s
  have h1 := h D F w0 f (fun _ => true) a w ⟨r, ag, s, fun t ht => by cases ht⟩ (fun _ _ => rfl)
  unfold wpList at h1
  rw [if_pos (wanted_none hg)] at h1
  have fin : ∀ (a2 : Act) (w2 : World), Lift D n F w0 f (fun _ => true) (mxEnd P n kd ops Lb Z l) .normal a2 w2 → ∃ f2 L2, Agree D n a2 f2 ∧ Rest w0 w2 ∧ Sats w2 L2 F ∧ Fac Lb L2 ∧ Mix P n ops kd Lb Z l f2 L2 := fun a2 w2 ⟨f2, L2, ⟨r2, ag2, s2, _⟩, q1, q2⟩ => ⟨f2, L2, ag2, r2, s2, q1, q2⟩
  have same : ∀ (v : Value) (f2 : Nat → Value), Agree D n (a.put o.dst v) f2 → f2 = updo f o.dst v := fun v f2 ag2 => by
    funext t
    rw [← ag2.2.2 t, (ag.puto hdo v).2.2 t]
  have fin2 : ∀ (v : Value) (w2 : World), Lift D n F w0 f (fun _ => true) (mxEnd P n kd ops Lb Z l) .normal (a.put o.dst v) w2 → ∃ L2, Fac Lb L2 ∧ Rest w0 w2 ∧ Sats w2 L2 F ∧ Mix P n ops kd Lb Z l (updo f o.dst v) L2 := fun v w2 hl => by
    obtain ⟨f2, L2, ag2, r2, s2, hf2, hm2⟩ := fin _ _ hl
    rw [same v f2 ag2] at hm2
    exact ⟨L2, hf2, r2, s2, hm2⟩
  rcases h1 with h1 | ⟨_, a2, w2, _, _, _, hq⟩
  · unfold Oper.wp at h1
    rw [ag.eval] at h1
    unfold LW
    generalize (execOp (evalF f) o).run P w = rr at h1 ⊢
    cases rr with
    | halt x w' =>
      cases x with
      | panic v => obtain ⟨_, _, _, hq⟩ := h1; exact hq.elim
      | _ => exact h1.elim
    | ok nx w' =>
      cases nx with
      | value v => exact fin2 v w' h1
      | skip => exact fin2 undef w' h1
      | defer dd =>
        obtain ⟨f2, L2, hh, _⟩ := (show Lift D n F w0 f (fun _ => true) (mxEnd P n kd ops Lb Z l) .normal _ _ from h1)
        have := hh.2.1.1
        have e2 := ag.1
        cases hd : o.dst <;> simp [Act.put, hd, e2] at this
      | enter k args =>
        show Calls P k args w' _
        refine Calls.mono h1 fun e w2 he => ?_
        cases e with
        | returned v => exact ⟨v, rfl, fin2 v w2 he⟩
        | panicked c => obtain ⟨_, _, _, hq⟩ := he; exact hq.elim
        | outgrown => obtain ⟨_, _, _, _, _, hq⟩ := he; exact hq.elim
      | row r args =>
        show Rows P r args w' _
        exact Rows.mono h1 fun v w2 hv => fin2 v w2 hv
      | _ => exact h1.elim
  · exact hq.elim
theorem mxEnd_n (hf : Fac Lb L) (h : Mix P n ops kd Lb Z l f L) : mxEnd P n kd ops Lb Z l .normal f L := ⟨hf, h⟩
/-- A new variable. -/
theorem mx_new {d : Nat} {obj : Obj} {mk : Nat → Value} (A : Nat → Assn) (hk : kd i = 1) (hg : o.guard = none) (ho : o.dst = some d) (hv : YA P f o obj mk) (ha : ∀ g, A g (Frag.one g obj)) (h : ∀ g, Mix P n ops kd Lb Z l (upd f d (mk g)) (A g :: L)) : Mix P n ops kd Lb Z ((i, o) :: l) f L := fun _ => by
  have hw : wantF ops f o = true := wanted_none hg
  rw [if_pos hw, if_neg (by rw [hk]; decide), if_pos hk]
  refine ⟨obj, mk, hv, fun g => ?_⟩
  rw [ho]
  exact Mix.sub (Sub.cons' (fun x hx => by rw [show x = Frag.one g obj from hx]; exact ha g) (Sub.refl L)) (h g)
end
end
end Go.Proofs.Ytcclbplccnaonaa
/- The facts beneath the steps that only reckon (by a program, off the steps' own text). No condition. -/
namespace Go.Proofs.Ytcclbplccnaonaa
open Go.RowKit
set_option linter.unusedSimpArgs false
set_option linter.unusedVariables false
section
variable {P : Program} {f : Nat → Value} {L : List Assn} {d : Nat} {ty : TypeId} {pos : String} {af : Array Edge} {gd : Option (Nat × Bool)}
theorem vl_eqv {op : BinOp} {xt yt : TypeId} {x y : Operand} {a b v : Value} (hx : evalF f x = a) (hy : evalF f y = b) (hg : ∀ w, (eqGuard op xt x y a b).run P w = .ok () w) (hr : ∀ w, (binOp op xt a b).run P w = .ok v w)
    : Val P ⟨some d, .binOp op xt x y yt, ty, pos, af, gd⟩ f L v := (fun F w s => by simp [execOp, hx, hy, hg, hr])
theorem vl_bin {op : BinOp} {xt yt : TypeId} {x y : Operand} {a b v : Value} (hx : evalF f x = a) (hy : evalF f y = b) (hne : (op matches .eql | .neq) = false) (hr : ∀ w, (binOp op xt a b).run P w = .ok v w)
    : Val P ⟨some d, .binOp op xt x y yt, ty, pos, af, gd⟩ f L v := vl_eqv  hx hy (run_eqGuard hne) hr
theorem vl_add64 {xt yt : TypeId} {x y : Operand} {a b : Int} (hx : evalF f x = .int .i64 a) (hy : evalF f y = .int .i64 b) (h1 : -9223372036854775808 ≤ a + b) (h2 : a + b ≤ 9223372036854775807)
    : Val P ⟨some d, .binOp .add xt x y yt, ty, pos, af, gd⟩ f L (.int .i64 (a + b)) := vl_bin  hx hy rfl (fun w => by simp [binOp, Op.intArith, wrap_i64 h1 h2])
theorem vl_sub64 {xt yt : TypeId} {x y : Operand} {a b : Int} (hx : evalF f x = .int .i64 a) (hy : evalF f y = .int .i64 b) (h1 : -9223372036854775808 ≤ a - b) (h2 : a - b ≤ 9223372036854775807)
    : Val P ⟨some d, .binOp .sub xt x y yt, ty, pos, af, gd⟩ f L (.int .i64 (a - b)) := vl_bin  hx hy rfl (fun w => by simp [binOp, Op.intArith, wrap_i64 h1 h2])
theorem vl_mul64 {xt yt : TypeId} {x y : Operand} {a b : Int} (hx : evalF f x = .int .i64 a) (hy : evalF f y = .int .i64 b) (h1 : -9223372036854775808 ≤ a * b) (h2 : a * b ≤ 9223372036854775807)
    : Val P ⟨some d, .binOp .mul xt x y yt, ty, pos, af, gd⟩ f L (.int .i64 (a * b)) := vl_bin  hx hy rfl (fun w => by simp [binOp, Op.intArith, wrap_i64 h1 h2])
theorem vl_addw {k : IntKind} {xt yt : TypeId} {x y : Operand} {a b : Int} (hx : evalF f x = .int k a) (hy : evalF f y = .int k b)
    : Val P ⟨some d, .binOp .add xt x y yt, ty, pos, af, gd⟩ f L (.int k (k.wrap (a + b))) := vl_bin  hx hy rfl (fun w => by simp [binOp, Op.intArith])
theorem vl_subw {k : IntKind} {xt yt : TypeId} {x y : Operand} {a b : Int} (hx : evalF f x = .int k a) (hy : evalF f y = .int k b)
    : Val P ⟨some d, .binOp .sub xt x y yt, ty, pos, af, gd⟩ f L (.int k (k.wrap (a - b))) := vl_bin  hx hy rfl (fun w => by simp [binOp, Op.intArith])
theorem vl_mulw {k : IntKind} {xt yt : TypeId} {x y : Operand} {a b : Int} (hx : evalF f x = .int k a) (hy : evalF f y = .int k b)
    : Val P ⟨some d, .binOp .mul xt x y yt, ty, pos, af, gd⟩ f L (.int k (k.wrap (a * b))) := vl_bin  hx hy rfl (fun w => by simp [binOp, Op.intArith])
theorem vl_rem0 {k : IntKind} {xt yt : TypeId} {x y : Operand} {a b : Int} (hx : evalF f x = .int k a) (hy : evalF f y = .int k b) (ha : 0 ≤ a) (hb : 0 < b)
    : Val P ⟨some d, .binOp .rem xt x y yt, ty, pos, af, gd⟩ f L (.int k (a % b)) := vl_bin  hx hy rfl (fun w => by simp [binOp, Op.intDiv, show b ≠ 0 by omega, Int.tmod_eq_emod_of_nonneg ha])
theorem vl_remt {k : IntKind} {xt yt : TypeId} {x y : Operand} {a b : Int} (hx : evalF f x = .int k a) (hy : evalF f y = .int k b) (hb : b ≠ 0)
    : Val P ⟨some d, .binOp .rem xt x y yt, ty, pos, af, gd⟩ f L (.int k (a.tmod b)) := vl_bin  hx hy rfl (fun w => by simp [binOp, Op.intDiv, hb])
theorem vl_quo0 {xt yt : TypeId} {x y : Operand} {a b : Int} (hx : evalF f x = .int .i64 a) (hy : evalF f y = .int .i64 b) (ha : 0 ≤ a) (hb : 0 < b) (h2 : a / b ≤ 9223372036854775807)
    : Val P ⟨some d, .binOp .quo xt x y yt, ty, pos, af, gd⟩ f L (.int .i64 (a / b)) := by
  have h0 : 0 ≤ a / b := Int.ediv_nonneg ha (by omega)
  refine vl_bin hx hy rfl (fun w => ?_)
  simp [binOp, Op.intDiv, show b ≠ 0 by omega, Int.tdiv_eq_ediv_of_nonneg ha, wrap_i64 (show -9223372036854775808 ≤ a / b by omega) h2]
theorem vl_bits {op : BinOp} {k : IntKind} {xt yt : TypeId} {x y : Operand} {a b : Int} (hx : evalF f x = .int k a) (hy : evalF f y = .int k b) (ho : (op matches .and | .or | .xor | .andNot) = true)
    : Val P ⟨some d, .binOp op xt x y yt, ty, pos, af, gd⟩ f L (.int k (bits op k a b)) := by
  refine vl_bin hx hy (by cases op <;> simp_all) (fun w => ?_)
  cases op <;> first | (simp at ho; done) | (simp [binOp, Op.intBits, bits])
theorem vl_shl {k k' : IntKind} {xt yt : TypeId} {x y : Operand} {a b : Int} (hx : evalF f x = .int k a) (hy : evalF f y = .int k' b) (hb : 0 ≤ b)
    : Val P ⟨some d, .binOp .shl xt x y yt, ty, pos, af, gd⟩ f L (.int k (k.wrap (a * 2 ^ (min b.toNat k.bits)))) := vl_bin  hx hy rfl (fun w => by simp [binOp, Op.shift, show ¬ b < 0 by omega])
theorem vl_shr {k k' : IntKind} {xt yt : TypeId} {x y : Operand} {a b : Int} (hx : evalF f x = .int k a) (hy : evalF f y = .int k' b) (hb : 0 ≤ b)
    : Val P ⟨some d, .binOp .shr xt x y yt, ty, pos, af, gd⟩ f L (.int k (a.fdiv (2 ^ (min b.toNat k.bits)))) := vl_bin  hx hy rfl (fun w => by simp [binOp, Op.shift, show ¬ b < 0 by omega])
theorem vl_not_d {t : TypeId} {x : Operand} {p : Prop} [i : Decidable p] (hx : evalF f x = .bool (decide p)) : Val P ⟨some d, .unOp .not t x, ty, pos, af, gd⟩ f L (.bool (decide (¬p))) := (fun F w s => by simp [execOp, hx, Op.unary])
theorem vl_not {t : TypeId} {x : Operand} {b : Bool} (hx : evalF f x = .bool b) : Val P ⟨some d, .unOp .not t x, ty, pos, af, gd⟩ f L (.bool (!b)) := (fun F w s => by simp [execOp, hx, Op.unary])
theorem vl_not_t {t : TypeId} {x : Operand} (hx : evalF f x = .bool true) : Val P ⟨some d, .unOp .not t x, ty, pos, af, gd⟩ f L (.bool false) := vl_not  hx
theorem vl_not_f {t : TypeId} {x : Operand} (hx : evalF f x = .bool false) : Val P ⟨some d, .unOp .not t x, ty, pos, af, gd⟩ f L (.bool true) := vl_not  hx
theorem vl_eql_b {xt yt : TypeId} {x y : Operand} {a b : Bool} (hx : evalF f x = .bool a) (hy : evalF f y = .bool b) (hu : P.underlying xt = some .bool)
    : Val P ⟨some d, .binOp .eql xt x y yt, ty, pos, af, gd⟩ f L (.bool (decide (a = b))) := vl_eqv  hx hy (fun w => by simp [eqGuard]) (fun w => by
    have h1 : (Op.equal xt (.bool a) (.bool b)).run P w = .ok (decide (a = b)) w := by
      show (Op.equalIn (9999 + 1) xt (.bool a) (.bool b)).run P w = _
      rw [run_equalIn_bool' w 9999 xt a b hu]; cases a <;> cases b <;> rfl
    simp only [binOp, Sem.run_bind, h1, Result.andThen_ok, Sem.run_pure])
theorem vl_neq_b {xt yt : TypeId} {x y : Operand} {a b : Bool} (hx : evalF f x = .bool a) (hy : evalF f y = .bool b) (hu : P.underlying xt = some .bool)
    : Val P ⟨some d, .binOp .neq xt x y yt, ty, pos, af, gd⟩ f L (.bool (decide (a ≠ b))) := vl_eqv  hx hy (fun w => by simp [eqGuard]) (fun w => by
    have h1 : (Op.equal xt (.bool a) (.bool b)).run P w = .ok (decide (a = b)) w := by
      show (Op.equalIn (9999 + 1) xt (.bool a) (.bool b)).run P w = _
      rw [run_equalIn_bool' w 9999 xt a b hu]; cases a <;> cases b <;> rfl
    simp only [binOp, Sem.run_bind, h1, Result.andThen_ok, Sem.run_pure]
    cases a <;> cases b <;> rfl)
theorem vl_eql_s {xt yt : TypeId} {x y : Operand} {a b : List UInt8} (hx : evalF f x = .string (S a)) (hy : evalF f y = .string (S b))
    : Val P ⟨some d, .binOp .eql xt x y yt, ty, pos, af, gd⟩ f L (.bool (decide (a = b))) := vl_eqv  hx hy (fun w => by simp [eqGuard]) (fun w => by
    simp only [binOp, Op.stringOp, S_toList]
    rw [show (a == b) = decide (a = b) by by_cases h : a = b <;> simp [h]]
    rfl)
theorem vl_neq_s {xt yt : TypeId} {x y : Operand} {a b : List UInt8} (hx : evalF f x = .string (S a)) (hy : evalF f y = .string (S b))
    : Val P ⟨some d, .binOp .neq xt x y yt, ty, pos, af, gd⟩ f L (.bool (decide (a ≠ b))) := vl_eqv  hx hy (fun w => by simp [eqGuard]) (fun w => by
    simp only [binOp, Op.stringOp, S_toList]
    rw [show (!(a == b)) = decide (a ≠ b) by by_cases h : a = b <;> simp [h]]
    rfl)
theorem vl_add_s {xt yt : TypeId} {x y : Operand} {a b : List UInt8} (hx : evalF f x = .string (S a)) (hy : evalF f y = .string (S b)) (hl : (a.length : Int) + b.length ≤ 9223372036854775807)
    : Val P ⟨some d, .binOp .add xt x y yt, ty, pos, af, gd⟩ f L (.string (S (a ++ b))) := vl_bin  hx hy rfl (fun w => by
    have : ¬ (((S a).size + (S b).size : Nat) : Int) > IntKind.i64.max := by rw [S_size, S_size]; show ¬ _ > (9223372036854775807 : Int); omega
    simp only [binOp, Op.stringOp, this, if_false, S_append]; rfl)
theorem vl_len_s {x : Operand} {t : TypeId} {a : List UInt8} (hx : evalF f x = .string (S a)) (hu : P.underlying t = some .string) : Val P ⟨some d, .call ⟨.builtin .len, #[x], #[t]⟩, ty, pos, af, gd⟩ f L (.int .i64 a.length) := (fun F w s => by simp [execOp, resolve, invoke, builtin, hx, Builtin.len_, run_underlying hu, goInt, S_size])
theorem vl_len_a {x : Operand} {t e : TypeId} {m : Nat} {v : Value} (hx : evalF f x = v) (hu : P.underlying t = some (.array m e)) : Val P ⟨some d, .call ⟨.builtin .len, #[x], #[t]⟩, ty, pos, af, gd⟩ f L (.int .i64 m) := (fun F w s => by simp [execOp, resolve, invoke, builtin, hx, Builtin.len_, run_underlying hu, goInt])
theorem vl_min {x y : Operand} {ts : Array TypeId} {k k' : IntKind} {a b : Int} (hx : evalF f x = .int k a) (hy : evalF f y = .int k' b) : Val P ⟨some d, .call ⟨.builtin .min, #[x, y], ts⟩, ty, pos, af, gd⟩ f L (.int k (min a b)) := (fun F w s => by
    simp [execOp, resolve, invoke, builtin, hx, hy, Builtin.min_, Builtin.min2]
    omega)
theorem vl_max {x y : Operand} {ts : Array TypeId} {k k' : IntKind} {a b : Int} (hx : evalF f x = .int k a) (hy : evalF f y = .int k' b) : Val P ⟨some d, .call ⟨.builtin .max, #[x, y], ts⟩, ty, pos, af, gd⟩ f L (.int k (max a b)) := (fun F w s => by
    simp [execOp, resolve, invoke, builtin, hx, hy, Builtin.max_, Builtin.max2]
    omega)
theorem vl_conv {src dst : TypeId} {x : Operand} {k k' : IntKind} {a r : Int} {ds : TypeDesc} (hx : evalF f x = .int k a) (hs : P.underlying src = some ds) (hu : P.underlying dst = some (.int k')) (hr : k'.wrap a = r)
    : Val P ⟨some d, .convert src dst x, ty, pos, af, gd⟩ f L (.int k' r) := (fun F w s => by simp [execOp, hx, convert, run_underlying hs, run_underlying hu, Conv.intToInt, hr])
theorem vl_extract {x : Operand} {vs : Array Value} {i : Nat} {v : Value} (hx : evalF f x = .tuple vs) (hv : vs[i]? = some v) : Val P ⟨some d, .extract x i, ty, pos, af, gd⟩ f L v := (fun F w s => by simp [execOp, hx, Instr.extract, hv])
theorem vl_nil_eq {xt yt e : TypeId} {x y : Operand} {a : Addr} (hx : evalF f x = .pointer (some a)) (hy : evalF f y = .pointer none) (hu : P.underlying xt = some (.pointer e)) : Val P ⟨some d, .binOp .eql xt x y yt, ty, pos, af, gd⟩ f L (.bool false) := vl_eqv  hx hy (fun w => by simp [eqGuard]) (fun w => by
    have h1 : (Op.equal xt (.pointer (some a)) (.pointer none)).run P w = .ok false w := by
      show (Op.equalIn (9999 + 1) xt (.pointer (some a)) (.pointer none)).run P w = _
      rw [Op.equalIn]
      simp [run_underlying hu]
    simp only [binOp, Sem.run_bind, h1, Result.andThen_ok, Sem.run_pure])
theorem vl_move {x : Operand} {v : Value} (hx : evalF f x = v) : Val P ⟨some d, .move x, ty, pos, af, gd⟩ f L v := (fun F w s => by rw [← hx]; rfl)
theorem vl_assign {x : Operand} {v : Value} (hx : evalF f x = v) : Val P ⟨some d, .assign x, ty, pos, af, gd⟩ f L v := (fun F w s => by rw [← hx]; rfl)
theorem vl_pick_t {c x y : Operand} {v : Value} (hc : evalF f c = .bool true) (hx : evalF f x = v) : Val P ⟨some d, .pick c x y, ty, pos, af, gd⟩ f L v := (fun F w s => by rw [← hx]; simp [execOp, hc, asBool])
theorem vl_pick_f {c x y : Operand} {v : Value} (hc : evalF f c = .bool false) (hy : evalF f y = v) : Val P ⟨some d, .pick c x y, ty, pos, af, gd⟩ f L v := (fun F w s => by rw [← hy]; simp [execOp, hc, asBool])
theorem vl_cmp {op : BinOp} {xt yt : TypeId} {x y : Operand} {k : IntKind} {a b : Int} (p : Prop) [i : Decidable p] (hx : evalF f x = .int k a) (hy : evalF f y = .int k b)
    (hr : (binOp op xt (.int k a) (.int k b)) = pure (.bool (decide p))) : Val P ⟨some d, .binOp op xt x y yt, ty, pos, af, gd⟩ f L (.bool (decide p)) := (fun F w s => by cases op <;> simp [execOp, hx, hy, eqGuard, hr])
theorem vl_lss {xt yt : TypeId} {x y : Operand} {k : IntKind} {a b : Int} (hx : evalF f x = .int k a) (hy : evalF f y = .int k b)
    : Val P ⟨some d, .binOp .lss xt x y yt, ty, pos, af, gd⟩ f L (.bool (decide (a < b))) := vl_cmp (a < b)  hx hy (by simp [binOp, Op.intCmp])
theorem vl_leq {xt yt : TypeId} {x y : Operand} {k : IntKind} {a b : Int} (hx : evalF f x = .int k a) (hy : evalF f y = .int k b)
    : Val P ⟨some d, .binOp .leq xt x y yt, ty, pos, af, gd⟩ f L (.bool (decide (a ≤ b))) := vl_cmp (a ≤ b)  hx hy (by simp [binOp, Op.intCmp])
theorem vl_gtr {xt yt : TypeId} {x y : Operand} {k : IntKind} {a b : Int} (hx : evalF f x = .int k a) (hy : evalF f y = .int k b)
    : Val P ⟨some d, .binOp .gtr xt x y yt, ty, pos, af, gd⟩ f L (.bool (decide (b < a))) := vl_cmp (b < a)  hx hy (by simp [binOp, Op.intCmp])
theorem vl_geq {xt yt : TypeId} {x y : Operand} {k : IntKind} {a b : Int} (hx : evalF f x = .int k a) (hy : evalF f y = .int k b)
    : Val P ⟨some d, .binOp .geq xt x y yt, ty, pos, af, gd⟩ f L (.bool (decide (b ≤ a))) := vl_cmp (b ≤ a)  hx hy (by simp [binOp, Op.intCmp])
theorem vl_eql {xt yt : TypeId} {x y : Operand} {k : IntKind} {a b : Int} (hx : evalF f x = .int k a) (hy : evalF f y = .int k b)
    : Val P ⟨some d, .binOp .eql xt x y yt, ty, pos, af, gd⟩ f L (.bool (decide (a = b))) := vl_cmp (a = b)  hx hy (by simp [binOp, Op.intCmp]; rfl)
theorem vl_neq {xt yt : TypeId} {x y : Operand} {k : IntKind} {a b : Int} (hx : evalF f x = .int k a) (hy : evalF f y = .int k b)
    : Val P ⟨some d, .binOp .neq xt x y yt, ty, pos, af, gd⟩ f L (.bool (decide (a ≠ b))) := vl_cmp (a ≠ b)  hx hy (by simp [binOp, Op.intCmp]; rfl)
theorem vl_load1 (i : Nat) {t bt : TypeId} {x : Operand} {g o : Nat} {cs : List Value} {v : Value} (hx : evalF f x = .pointer (some ⟨g, o, none⟩)) (hi : L[i]? = some (Blk g bt cs)) (hA : aggB P t = some false) (hv : cs[o]? = some v)
    : Val P ⟨some d, .load t x, ty, pos, af, gd⟩ f L v := (fun F w s => by simp [execOp, hx, Instr.loadAt, Instr.sureAddr, run_loadVar1 w hA (blk_cell hi hv s)])
theorem vl_loadA (i : Nat) {t bt : TypeId} {x : Operand} {g o m : Nat} {cs vs : List Value} (hx : evalF f x = .pointer (some ⟨g, o, none⟩)) (hi : L[i]? = some (Blk g bt cs)) (hA : aggB P t = some true) (hm : P.cellsOf t = m) (hp : Nat.blt 0 m = true)
    (hl : Nat.ble (o + m) cs.length = true) (hv : (cs.drop o).take m = vs) : Val P ⟨some d, .load t x, ty, pos, af, gd⟩ f L (.agg vs.toArray) := by
  have hp := Nat.le_of_ble_eq_true hp
  have hl := Nat.le_of_ble_eq_true hl
  have hlen : vs.length = m := by rw [← hv]; simp; omega
  intro F w s
  have := run_loadVarA (P := P) w (t := t) (a := ⟨g, o, none⟩) (cs := vs) hA (by rw [hm, hlen]) (by omega) (fun j u hj => by
    rw [addr_add]
    rw [← hv] at hj
    exact blk_cell hi (take_drop_get hj) s)
  simp [execOp, hx, Instr.loadAt, Instr.sureAddr, this]
theorem vl_field {s : TypeId} {x : Operand} {g o fi off : Nat} (hx : evalF f x = .pointer (some ⟨g, o, none⟩)) (hf : fieldOff P s fi = some off)
    : Val P ⟨some d, .fieldAddr s x fi, ty, pos, af, gd⟩ f L (.pointer (some ⟨g, o + off, none⟩)) := (fun F w s => by simp [execOp, hx, run_fieldAt w hf, addr_add])
theorem vl_nilCheck {x : Operand} {a : Addr} (hx : evalF f x = .pointer (some a)) : Val P ⟨some d, .nilCheck x, ty, pos, af, gd⟩ f L (.pointer (some a)) := (fun F w s => by simp [execOp, hx])
theorem vl_idxA {t e : TypeId} {x y : Operand} {g o m sz : Nat} {k : IntKind} {j : Int} (hx : evalF f x = .pointer (some ⟨g, o, none⟩)) (hy : evalF f y = .int k j) (hu : P.underlying t = some (.array m e)) (hs : P.cellsOf e = sz) (hp : Nat.blt 0 sz = true)
    (h0 : 0 ≤ j) (h1 : j < (m : Int)) : Val P ⟨some d, .indexAddr t x y, ty, pos, af, gd⟩ f L (.pointer (some ⟨g, o + j.toNat * sz, none⟩)) := (fun F w s => by simp [execOp, hx, hy, run_indexAt_arr hu hs (Nat.le_of_ble_eq_true hp) h0 h1])
variable {α : Type} [Rep α] {v : Value} {xs : List α}
theorem vl_len {x : Operand} {t e : TypeId} (hx : evalF f x = v) (hu : P.underlying t = some (.slice e)) (hr : RdT L v xs) : Val P ⟨some d, .call ⟨.builtin .len, #[x], #[t]⟩, ty, pos, af, gd⟩ f L (.int .i64 xs.length) := (fun F w s => by
    obtain ⟨a, c, rfl, _, _⟩ := sl_cap (hr w F s)
    simp [execOp, resolve, invoke, builtin, hx, Builtin.len_, run_underlying hu, goInt])
theorem vl_idxS {t e : TypeId} {x y : Operand} {k : IntKind} {j sz : Nat} (hx : evalF f x = v) (hy : evalF f y = .int k (j : Int)) (hu : P.underlying t = some (.slice e)) (hr : RdT L v xs) (hs : P.cellsOf e = sz) (hsz : Rep.sz α = sz)
    (h1 : j < xs.length) : Val P ⟨some d, .indexAddr t x y, ty, pos, af, gd⟩ f L (elt v (j * sz + 0)) := (fun F w s => by
    have hp : 0 < sz := by rw [← hsz]; exact Rep.pos
    obtain ⟨hl, a, c, rfl, hk, hm, hn, hcell⟩ := hr w F s
    cases a with
    | none => have := hn rfl; omega
    | some ad =>
      have h1' : (j : Int) < (xs.length : Int) := by omega
      simp [execOp, hx, hy, Instr.indexAt, run_underlying hu, asIntOf, h1, run_sizeOf' w hs hp, elt])
theorem vl_idxSi {t e : TypeId} {x y : Operand} {k : IntKind} {j : Int} {sz : Nat} (hx : evalF f x = v) (hy : evalF f y = .int k j) (hu : P.underlying t = some (.slice e)) (hr : RdT L v xs) (hs : P.cellsOf e = sz) (hsz : Rep.sz α = sz)
    (h0 : 0 ≤ j) (h1 : j < (xs.length : Int)) : Val P ⟨some d, .indexAddr t x y, ty, pos, af, gd⟩ f L (elt v (j.toNat * sz + 0)) := by
  obtain ⟨m, rfl⟩ := Int.eq_ofNat_of_zero_le h0
  have := vl_idxS (ty := ty) (pos := pos) (af := af) (gd := gd) (d := d) hx hy hu hr hs hsz (by omega)
  simpa using this
theorem vl_fieldE {s : TypeId} {x : Operand} {b o fi off : Nat} (hx : evalF f x = elt v (b + o)) (hp : ∃ a k c, v = .slice (some a) k c) (hf : fieldOff P s fi = some off)
    : Val P ⟨some d, .fieldAddr s x fi, ty, pos, af, gd⟩ f L (elt v (b + (o + off))) := (fun F w s => by
    obtain ⟨a, k, c, rfl⟩ := hp
    simp [execOp, hx, elt, run_fieldAt w hf, addr_add2, Nat.add_assoc])
theorem vl_fieldS {s : TypeId} {x : Operand} {i sz o fi off : Nat} (hx : evalF f x = elt v (i * sz + o)) (hr : RdT L v xs) (hi : i < xs.length) (hf : fieldOff P s fi = some off)
    : Val P ⟨some d, .fieldAddr s x fi, ty, pos, af, gd⟩ f L (elt v (i * sz + (o + off))) := (fun F w s => by
    obtain ⟨a, c, rfl, _⟩ := some_of_lt (hr w F s) hi
    simp [execOp, hx, elt, run_fieldAt w hf, addr_add2, Nat.add_assoc])
theorem vl_idxE {t e : TypeId} {x y : Operand} {k : IntKind} {i sz o m es : Nat} {j : Int} (hx : evalF f x = elt v (i * sz + o)) (hy : evalF f y = .int k j) (hu : P.underlying t = some (.array m e)) (hs : P.cellsOf e = es) (hp : Nat.blt 0 es = true) (hr : RdT L v xs) (hi : i < xs.length)
    (h0 : 0 ≤ j) (h1 : j < (m : Int)) : Val P ⟨some d, .indexAddr t x y, ty, pos, af, gd⟩ f L (elt v (i * sz + (o + j.toNat * es))) := (fun F w s => by
    obtain ⟨a, c, rfl, _⟩ := some_of_lt (hr w F s) hi
    simp [execOp, hx, hy, elt, Instr.indexAt, run_underlying hu, asIntOf, Instr.sureAddr, h0, h1, run_sizeOf' w hs (Nat.le_of_ble_eq_true hp), addr_add2, Nat.add_assoc])
theorem vl_loadS1 {t : TypeId} {x : Operand} {i sz o : Nat} {u : Value} (hx : evalF f x = elt v (i * sz + o)) (hA : aggB P t = some false) (hr : RdT L v xs) (hi : i < xs.length) (hsz : Rep.sz α = sz) (hv : (Rep.cells (xs[i]'hi))[o]? = some u)
    : Val P ⟨some d, .load t x, ty, pos, af, gd⟩ f L u := (fun F w s => by
    obtain ⟨a, c, rfl, hcell⟩ := some_of_lt (hr w F s) hi
    have ho : o < Rep.sz α := by rw [← Rep.len (xs[i]'hi)]; exact (List.getElem?_eq_some_iff.1 hv).1
    have := hcell (i * sz + o) u (by rw [← hsz, cellsOf_get hi ho, hv])
    simp [execOp, hx, elt, Instr.loadAt, Instr.sureAddr, run_loadVar1 w hA this])
theorem vl_loadSA {t : TypeId} {x : Operand} {i sz o m : Nat} {us : List Value} (hx : evalF f x = elt v (i * sz + o)) (hA : aggB P t = some true) (hm : P.cellsOf t = m) (hp : Nat.blt 0 m = true) (hr : RdT L v xs) (hi : i < xs.length) (hsz : Rep.sz α = sz) (hle : Nat.ble (o + m) sz = true)
    (hv : ((Rep.cells (xs[i]'hi)).drop o).take m = us) : Val P ⟨some d, .load t x, ty, pos, af, gd⟩ f L (.agg us.toArray) := (fun F w s => by
    obtain ⟨a, c, rfl, hcell⟩ := some_of_lt (hr w F s) hi
    have hle := Nat.le_of_ble_eq_true hle
    have hp := Nat.le_of_ble_eq_true hp
    have hlen : us.length = m := by rw [← hv]; simp [Rep.len]; omega
    have := run_loadVarA (P := P) w (t := t) (a := a.add (i * sz + o)) (cs := us) hA (by rw [hm, hlen]) (by omega) (fun j u hj => by
      rw [addr_add2]
      rw [← hv] at hj
      have hj' := take_drop_get hj
      have ho : o + j < Rep.sz α := by rw [← Rep.len (xs[i]'hi)]; exact (List.getElem?_eq_some_iff.1 hj').1
      exact hcell _ u (by rw [← hsz, Nat.add_assoc, cellsOf_get hi ho, hj']))
    simp [execOp, hx, elt, Instr.loadAt, Instr.sureAddr, this])
end
end Go.Proofs.Ytcclbplccnaonaa
/- More steps: new variables, literals, what is returned. No condition. -/
namespace Go.Proofs.Ytcclbplccnaonaa
open Go.RowKit
set_option linter.unusedSimpArgs false
set_option linter.unusedVariables false
theorem cells_one {v : Value} (h : v.oneCell' = true) : v.cells = #[v] := by cases v <;> first | rfl | (simp [Value.oneCell'] at h)
section
variable {P : Program} {n : Nat} {ops : Array Oper} {Q : Post} {f : Nat → Value} {L : List Assn} {rest : List Oper} {d : Nat} {ty : TypeId} {pos : String} {af : Array Edge} {gd : Option (Nat × Bool)}
theorem vl_loadW (i : Nat) {t bt : TypeId} {x : Operand} {g : Nat} {cs : List Value} (hx : evalF f x = .pointer (some ⟨g, 0, none⟩)) (hi : L[i]? = some (Blk g bt cs)) (hA : aggB P t = some true) (hm : P.cellsOf t = cs.length) (hp : Nat.blt 0 cs.length = true) :
    Val P ⟨some d, .load t x, ty, pos, af, gd⟩ f L (.agg cs.toArray) :=
  vl_loadA i hx hi hA hm hp (by simp) (by simp)
theorem st_new {e : TypeId} {zs : List Value} (hd : Nat.blt d n = true) (h1 : (zeroC P e).isSome = true) (hz : (zeroC P e).getD [] = zs) (h : ∀ g, ExL P n ops rest Q (upd f d (.pointer (some ⟨g, 0, none⟩))) (Blk g e zs :: L)) :
    ExL P n ops (⟨some d, .alloc e, ty, pos, af, none⟩ :: rest) Q f L := by
  refine st_alloc hd ?_ h
  cases hc : zeroC P e with
  | none => rw [hc] at h1; cases h1
  | some z => rw [hc] at hz; simp at hz; rw [hz]
theorem st_boxA {e : TypeId} {x : Operand} {cs : List Value} (hd : Nat.blt d n = true) (hx : evalF f x = .agg cs.toArray) (h : ∀ g, ExL P n ops rest Q (upd f d (.pointer (some ⟨g, 0, none⟩))) (Blk g e cs :: L)) :
    ExL P n ops (⟨some d, .box e x, ty, pos, af, none⟩ :: rest) Q f L := st_box hd hx (by simp [Value.cells]) h
theorem st_box1 {e : TypeId} {x : Operand} {v : Value} (hd : Nat.blt d n = true) (hx : evalF f x = v) (h1 : v.oneCell' = true) (h : ∀ g, ExL P n ops rest Q (upd f d (.pointer (some ⟨g, 0, none⟩))) (Blk g e [v] :: L)) :
    ExL P n ops (⟨some d, .box e x, ty, pos, af, none⟩ :: rest) Q f L := st_box hd hx (by rw [cells_one h1]) h
/-- A literal of a struct: the parts, laid over the zero value. -/
def Evs (f : Nat → Value) : List (Nat × Operand) → List (Nat × List Value) → Prop
  | [], [] => True
  | (i, x) :: l, (j, vs) :: ps => i = j ∧ (evalF f x).cells.toList = vs ∧ Evs f l ps
  | _, _ => False
theorem evs_nil : Evs f [] [] := trivial
theorem evs_one {i : Nat} {x : Operand} {v : Value} {l : List (Nat × Operand)} {ps : List (Nat × List Value)} (h : evalF f x = v) (h1 : v.oneCell' = true) (t : Evs f l ps) : Evs f ((i, x) :: l) ((i, [v]) :: ps) := ⟨rfl, by rw [h, cells_one h1], t⟩
theorem evs_agg {i : Nat} {x : Operand} {cs : List Value} {l : List (Nat × Operand)} {ps : List (Nat × List Value)} (h : evalF f x = .agg cs.toArray) (t : Evs f l ps) : Evs f ((i, x) :: l) ((i, cs) :: ps) := ⟨rfl, by rw [h]; simp [Value.cells], t⟩
def over (cs : List Value) (o : Nat) (vs : List Value) : List Value := cs.take o ++ vs ++ cs.drop (o + vs.length)
def lay (off : Nat → Option (Nat × Nat)) : List Value → List (Nat × List Value) → Option (List Value)
  | cs, [] => some cs
  | cs, (i, vs) :: ps => match off i with
    | some (o, sz) => match Nat.beq vs.length sz && Nat.ble (o + sz) cs.length with
      | true => lay off (over cs o vs) ps
      | false => none
    | none => none
theorem foldl_over : ∀ (vs : List Value) (cs : Array Value) (o k : Nat), o + k + vs.length ≤ cs.size → ((vs.zipIdx k).foldl (fun (cs : Array Value) (x : Value × Nat) => cs.setIfInBounds (o + x.2) x.1) cs).toList = over cs.toList (o + k) vs
  | [], cs, o, k, h => by simp [over]
  | v :: vs, cs, o, k, h => by
    simp only [List.zipIdx_cons, List.foldl_cons]
    rw [foldl_over vs _ o (k + 1) (by simp at h ⊢; omega)]
    simp only [over, Array.toList_setIfInBounds]
    rw [show o + (k + 1) = o + k + 1 by omega]
    exact splice_set cs.toList (o + k) v vs (by simp at h ⊢; omega)
theorem fill_lay (place : Nat → Option (Nat × Nat)) : ∀ (ps : List (Nat × Value)) (cs : Array Value) (vs : List Value), lay place cs.toList (ps.map fun p => (p.1, p.2.cells.toList)) = some vs → Instr.fill place cs ps = some vs.toArray
  | [], cs, vs, h => by simp [lay] at h; subst h; simp [Instr.fill]
  | (i, v) :: ps, cs, vs, h => by
    simp only [List.map_cons, lay] at h
    simp only [Instr.fill]
    cases hp : place i with
    | none => rw [hp] at h; cases h
    | some os =>
      obtain ⟨o, sz⟩ := os
      rw [hp] at h
      simp only at h
      split at h
      · rename_i hb
        simp only [Bool.and_eq_true] at hb
        have h1 := Nat.eq_of_beq_eq_true hb.1
        have h2 := Nat.le_of_ble_eq_true hb.2
        simp at h1 h2
        simp only
        rw [if_neg (by simp; omega)]
        refine fill_lay place ps _ vs ?_
        rw [← h]
        congr 1
        rw [← Array.foldl_toList, Array.toList_zipIdx]
        have := foldl_over v.cells.toList cs o 0 (by simp; omega)
        simpa using this
      · cases h
def offS (P : Program) (t : TypeId) (i : Nat) : Option (Nat × Nat) := match P.underlying t with
  | some (.struct fs) => (fs[i]?).map fun fd => (fd.offset, P.cellsOf fd.type)
  | some (.array _ e) => some (i * P.cellsOf e, P.cellsOf e)
  | _ => none
theorem evs_map {f : Nat → Value} : ∀ {l : List (Nat × Operand)} {ps : List (Nat × List Value)}, Evs f l ps → (l.map fun p => (p.1, evalF f p.2)).map (fun p => (p.1, p.2.cells.toList)) = ps
  | [], [], _ => rfl
  | (i, x) :: l, (j, vs) :: ps, ⟨h1, h2, h3⟩ => by
    simp only [List.map_cons]
    rw [evs_map h3, h1, h2]
theorem mapM_run {α β : Type} {w : World} (g : α → Sem β) (k : α → β) : ∀ (l : List α), (∀ x ∈ l, (g x).run P w = .ok (k x) w) → (l.mapM g).run P w = .ok (l.map k) w
  | [], _ => rfl
  | x :: l, h => by
    simp only [List.mapM_cons, Sem.run_bind, h x (List.mem_cons_self ..), Result.andThen_ok, mapM_run g k l (fun y hy => h y (List.mem_cons_of_mem _ hy)), Sem.run_pure, List.map_cons]
theorem vl_build {t : TypeId} {fs : Array Field} {parts : List (Nat × Operand)} {zs vs : List Value} {ps : List (Nat × List Value)} (hu : P.underlying t = some (.struct fs)) (hp : (fs.toList.all fun fd => Nat.blt 0 (P.cellsOf fd.type)) = true) (hz : zeroC P t = some zs)
    (he : Evs f parts ps) (hl : lay (offS P t) zs ps = some vs) : Val P ⟨some d, .build t parts.toArray, ty, pos, af, gd⟩ f L (.agg vs.toArray) := fun F w s => by
  obtain ⟨z, hr, hc⟩ := run_zeroValue w hz
  have hall : ∀ fd ∈ fs.toList, 0 < P.cellsOf fd.type := fun fd hfd => Nat.le_of_ble_eq_true (List.all_eq_true.1 hp fd hfd)
  have hm := mapM_run (P := P) (w := w) (fun fd : Field => (do pure (fd.offset, ← sizeOf fd.type) : Sem (Nat × Nat))) (fun fd => (fd.offset, P.cellsOf fd.type)) fs.toList (fun fd hfd => by
    have h1 := run_sizeOf' (P := P) w (t := fd.type) rfl (hall fd hfd)
    simp only [Sem.run_bind, h1, Result.andThen_ok, Sem.run_pure])
  have hfill := fill_lay (offS P t) (parts.map fun p => (p.1, evalF f p.2)) z.cells vs (by rw [hc, evs_map he]; simpa using hl)
  have hoff : (fun i => ((fs.toList.map fun fd => (fd.offset, P.cellsOf fd.type)).toArray)[i]?) = offS P t := by
    funext i
    unfold offS
    rw [hu]
    simp
  have hmm : (fs.mapM fun fd => (do pure (fd.offset, ← sizeOf fd.type) : Sem (Nat × Nat))).run P w = .ok (fs.toList.map fun fd => (fd.offset, P.cellsOf fd.type)).toArray w := by
    rw [Array.mapM_eq_mapM_toList, Sem.run_map, hm]
    rfl
  have hpl : (parts.toArray.map fun (p : Nat × Operand) => (p.1, evalF f p.2)).toList = parts.map fun p => (p.1, evalF f p.2) := by simp
  simp only [execOp, Instr.build, Sem.run_bind, hr, Result.andThen_ok, run_underlying hu, hmm, hpl, hoff, hfill, Sem.run_pure]
theorem vl_buildA {t e : TypeId} {m es : Nat} {parts : List (Nat × Operand)} {zs vs : List Value} {ps : List (Nat × List Value)} (hu : P.underlying t = some (.array m e)) (hs : P.cellsOf e = es) (hp : Nat.blt 0 es = true) (hz : zeroC P t = some zs)
    (he : Evs f parts ps) (hl : lay (offS P t) zs ps = some vs) : Val P ⟨some d, .build t parts.toArray, ty, pos, af, gd⟩ f L (.agg vs.toArray) := fun F w s => by
  obtain ⟨z, hr, hc⟩ := run_zeroValue w hz
  have hfill := fill_lay (offS P t) (parts.map fun p => (p.1, evalF f p.2)) z.cells vs (by rw [hc, evs_map he]; simpa using hl)
  have hoff : (fun i => some (i * es, es)) = offS P t := by
    funext i
    unfold offS
    rw [hu]
    simp [hs]
  have hpl : (parts.toArray.map fun (p : Nat × Operand) => (p.1, evalF f p.2)).toList = parts.map fun p => (p.1, evalF f p.2) := by simp
  simp only [execOp, Instr.build, Sem.run_bind, hr, Result.andThen_ok, run_underlying hu, run_sizeOf' w hs (Nat.le_of_ble_eq_true hp), hpl, hoff, hfill, Sem.run_pure]
theorem vl_idxStr {t : TypeId} {x y : Operand} {k : IntKind} {a : List UInt8} {j : Nat} (hx : evalF f x = .string (S a)) (hy : evalF f y = .int k (j : Int)) (hu : P.underlying t = some .string) (hj : j < a.length) :
    Val P ⟨some d, .index t x y, ty, pos, af, gd⟩ f L (.int .u8 (a[j]'hj).toNat) := fun F w s => by
  have hg : (S a)[j]? = some (a[j]'hj) := by
    show ((S a).data[j]?) = _
    simp [S, hj]
  simp [execOp, hx, hy, Instr.index, run_underlying hu, asIntOf, hg]
end
theorem vint {k : IntKind} {a b : Int} (h : a = b) : Value.int k a = Value.int k b := by rw [h]
theorem vbool {a b : Bool} (h : a = b) : Value.bool a = Value.bool b := by rw [h]
theorem lcons {α : Type} {a b : α} {l l' : List α} (h : a = b) (t : l = l') : a :: l = b :: l' := by rw [h, t]
/-- A list, laid open to its end by evaluation. -/
def seqL : List Value → Option (List Value)
  | [] => some []
  | a :: l => match seqL l with
    | some l' => some (a :: l')
    | none => none
theorem seqL_some : ∀ (l : List Value), seqL l = some l
  | [] => rfl
  | a :: l => by simp only [seqL, seqL_some l]
theorem seqL_eq {l l' : List Value} (h : seqL l = some l') : l = l' := by rw [seqL_some] at h; cases h; rfl
section
variable {P : Program} {n : Nat} {ops : Array Oper} {Q : Post} {f : Nat → Value} {L : List Assn} {rest : List Oper} {d : Nat} {ty : TypeId} {pos : String} {af : Array Edge} {gd : Option (Nat × Bool)}
theorem st_new_ {e : TypeId} {zs : List Value} (hd : Nat.blt d n = true) (hz : ((zeroC P e).bind seqL) = some zs) (h : ∀ g, ExL P n ops rest Q (upd f d (.pointer (some ⟨g, 0, none⟩))) (Blk g e zs :: L)) :
    ExL P n ops (⟨some d, .alloc e, ty, pos, af, none⟩ :: rest) Q f L := by
  refine st_alloc hd ?_ h
  cases hc : zeroC P e with
  | none => rw [hc] at hz; cases hz
  | some z => rw [hc] at hz; rw [← seqL_eq hz]
theorem st_store1_ (i : Nat) {t bt : TypeId} {x y : Operand} {g o : Nat} {cs cs' : List Value} {v : Value} {L' : List Assn} (hx : evalF f x = .pointer (some ⟨g, o, none⟩)) (hi : L[i]? = some (Blk g bt cs)) (hy : evalF f y = v) (h1 : v.oneCell' = true) (hm : P.cellsOf t = 1)
    (ho : Nat.blt o cs.length = true) (hc : seqL (cs.set o v) = some cs') (hL : L.set i (Blk g bt cs') = L') (h : ExL P n ops rest Q f L') : ExL P n ops (⟨none, .store t x y, ty, pos, af, none⟩ :: rest) Q f L :=
  st_store1 i hx hy h1 hi hm ho (by rw [seqL_eq hc, hL]) h
theorem st_storeA_ (i : Nat) {t bt : TypeId} {x y : Operand} {g o : Nat} {cs vs cs' : List Value} {L' : List Assn} (hx : evalF f x = .pointer (some ⟨g, o, none⟩)) (hi : L[i]? = some (Blk g bt cs)) (hy : evalF f y = .agg vs.toArray) (h1 : vs.all Value.oneCell' = true) (hm : P.cellsOf t = vs.length)
    (hp : Nat.blt 0 vs.length = true) (ho : Nat.ble (o + vs.length) cs.length = true) (hc : seqL (cs.take o ++ vs ++ cs.drop (o + vs.length)) = some cs') (hL : L.set i (Blk g bt cs') = L') (h : ExL P n ops rest Q f L') : ExL P n ops (⟨none, .store t x y, ty, pos, af, none⟩ :: rest) Q f L :=
  st_storeA i hx hy h1 hi hm hp ho (by rw [seqL_eq hc, hL]) h
/-- A whole variable is written. -/
theorem st_storeW_ (i : Nat) {t bt : TypeId} {x y : Operand} {g : Nat} {cs vs : List Value} {L' : List Assn} (hx : evalF f x = .pointer (some ⟨g, 0, none⟩)) (hi : L[i]? = some (Blk g bt cs)) (hy : evalF f y = .agg vs.toArray) (h1 : vs.all Value.oneCell' = true) (hm : P.cellsOf t = vs.length)
    (hp : Nat.blt 0 vs.length = true) (ho : Nat.beq vs.length cs.length = true) (hL : L.set i (Blk g bt vs) = L') (h : ExL P n ops rest Q f L') : ExL P n ops (⟨none, .store t x y, ty, pos, af, none⟩ :: rest) Q f L := by
  have ho := Nat.eq_of_beq_eq_true ho
  refine st_storeA i hx hy h1 hi hm hp (by simp; omega) ?_ h
  rw [← hL, List.take_zero, List.nil_append, List.drop_eq_nil_of_le (by omega), List.append_nil]
theorem vl_loadA_ (i : Nat) {t bt : TypeId} {x : Operand} {g o m : Nat} {cs vs : List Value} (hx : evalF f x = .pointer (some ⟨g, o, none⟩)) (hi : L[i]? = some (Blk g bt cs)) (hA : aggB P t = some true) (hm : P.cellsOf t = m) (hp : Nat.blt 0 m = true)
    (hl : Nat.ble (o + m) cs.length = true) (hv : seqL ((cs.drop o).take m) = some vs) : Val P ⟨some d, .load t x, ty, pos, af, gd⟩ f L (.agg vs.toArray) := vl_loadA i hx hi hA hm hp hl (seqL_eq hv)
theorem vl_loadSA_ {α : Type} [Rep α] {v : Value} {xs : List α} {t : TypeId} {x : Operand} {i sz o m : Nat} {us : List Value} (hx : evalF f x = elt v (i * sz + o)) (hA : aggB P t = some true) (hm : P.cellsOf t = m) (hp : Nat.blt 0 m = true) (hr : RdT L v xs) (hi : i < xs.length) (hsz : Rep.sz α = sz) (hle : Nat.ble (o + m) sz = true)
    (hv : seqL (((Rep.cells (xs[i]'hi)).drop o).take m) = some us) : Val P ⟨some d, .load t x, ty, pos, af, gd⟩ f L (.agg us.toArray) := vl_loadSA hx hA hm hp hr hi hsz hle (seqL_eq hv)
/-- A whole element. -/
theorem vl_loadSW {α : Type} [Rep α] {v : Value} {xs : List α} {t : TypeId} {x : Operand} {i sz : Nat} (hx : evalF f x = elt v (i * sz + 0)) (hA : aggB P t = some true) (hm : P.cellsOf t = sz) (hr : RdT L v xs) (hi : i < xs.length) (hsz : Rep.sz α = sz) :
    Val P ⟨some d, .load t x, ty, pos, af, gd⟩ f L (.agg (Rep.cells (xs[i]'hi)).toArray) := vl_loadSA hx hA hm (by
      have := Rep.pos (α := α); rw [hsz] at this; cases sz <;> first | omega | rfl) hr hi hsz (by simp) (by rw [List.drop_zero, List.take_of_length_le (by rw [Rep.len, hsz]; exact Nat.le_refl _)])
theorem vl_build_ {t : TypeId} {fs : Array Field} {parts : List (Nat × Operand)} {zs vs : List Value} {ps : List (Nat × List Value)} (hu : P.underlying t = some (.struct fs)) (hp : (fs.toList.all fun fd => Nat.blt 0 (P.cellsOf fd.type)) = true) (hz : zeroC P t = some zs)
    (he : Evs f parts ps) (hl : ((lay (offS P t) zs ps).bind seqL) = some vs) : Val P ⟨some d, .build t parts.toArray, ty, pos, af, gd⟩ f L (.agg vs.toArray) := vl_build hu hp hz he (by
  cases hc : lay (offS P t) zs ps with
  | none => rw [hc] at hl; cases hl
  | some z => rw [hc] at hl; rw [← seqL_eq hl])
theorem vl_buildA_ {t e : TypeId} {m es : Nat} {parts : List (Nat × Operand)} {zs vs : List Value} {ps : List (Nat × List Value)} (hu : P.underlying t = some (.array m e)) (hs : P.cellsOf e = es) (hp : Nat.blt 0 es = true) (hz : zeroC P t = some zs)
    (he : Evs f parts ps) (hl : ((lay (offS P t) zs ps).bind seqL) = some vs) : Val P ⟨some d, .build t parts.toArray, ty, pos, af, gd⟩ f L (.agg vs.toArray) := vl_buildA hu hs hp hz he (by
  cases hc : lay (offS P t) zs ps with
  | none => rw [hc] at hl; cases hl
  | some z => rw [hc] at hl; rw [← seqL_eq hl])
end
/-- What an operation does to memory: it reads at most, it makes a block, it acts. -/
def kdOf (ops : Array Oper) (i : Nat) : Nat := match ops[i]? with
  | some o => match o.op with
    | .alloc _ => 1
    | .box .. => 1
    | .buildSlice .. => 1
    | .store .. => 2
    | .mapUpdate .. => 2
    | .insert .. => 2
    | .makeSlice .. => 2
    | .makeMap .. => 2
    | .lookup .. => 2
    | .next .. => 2
    | .range .. => 2
    | .call c => match c.callee with
      | .builtin .len => 0
      | .builtin .cap => 0
      | .builtin .min => 0
      | .builtin .max => 0
      | _ => 2
    | _ => 0
  | none => 0
/-- From which operation on each waits for all ahead of it. -/
def tailOf (ops : Array Oper) : Nat → Nat
  | 0 => 0
  | m + 1 => match (List.range m).all fun k => edgeOn ops m k with
    | true => tailOf ops m
    | false => m + 1
theorem wrapB_i64 (b : UInt8) : IntKind.i64.wrap (b.toNat : Int) = b.toNat := wrap_i64 (by omega) (by have := b.toNat_lt; omega)
theorem wrapB_u8 (b : UInt8) : IntKind.u8.wrap (b.toNat : Int) = b.toNat := wrap_u8 (by omega) (by have := b.toNat_lt; omega)
theorem wrapB_u32 (b : UInt8) : IntKind.u32.wrap (b.toNat : Int) = b.toNat := wrap_u32 (by omega) (by have := b.toNat_lt; omega)
theorem wrapB_u64 (b : UInt8) : IntKind.u64.wrap (b.toNat : Int) = b.toNat := wrap_u64 (by omega) (by have := b.toNat_lt; omega)
section
variable {P : Program} {n : Nat} {ops : Array Oper} {Q : Post} {f : Nat → Value} {L : List Assn}
theorem Ex.mixA {id : Nat} (m : Nat) (Lb : List Assn) (hm : P.follows .mixedOrders = true) (hok : mixOk n ops (kdOf ops) m = true) (hf : Fac Lb L)
    (h : Mix P n ops (kdOf ops) Lb (fun f L => ExL P n ops (ops.toList.drop m) Q f L) (idx 0 (ops.toList.take m)) f L) : Ex P n (.region id ops true) Q f L :=
  Ex.mix m _ Lb hm hok hf h
variable {kd : Nat → Nat} {Lb : List Assn} {Z : (Nat → Value) → List Assn → Prop} {i : Nat} {l : List (Nat × Oper)} {d : Nat} {ty : TypeId} {pos : String} {af : Array Edge}
theorem mx_alloc {e : TypeId} {zs : List Value} (hk : kd i = 1) (hz : ((zeroC P e).bind seqL) = some zs) (h : ∀ g, Mix P n ops kd Lb Z l (upd f d (.pointer (some ⟨g, 0, none⟩))) (Blk g e zs :: L)) : Mix P n ops kd Lb Z ((i, ⟨some d, .alloc e, ty, pos, af, none⟩) :: l) f L := by
  have hz' : zeroC P e = some zs := by
    cases hc : zeroC P e with
    | none => rw [hc] at hz; cases hz
    | some z => rw [hc] at hz; rw [← seqL_eq hz]
  refine mx_new (obj := .cells zs.toArray e) (mk := fun g => .pointer (some ⟨g, 0, none⟩)) (fun g => Blk g e zs) hk rfl rfl (fun w => ?_) (fun g => ⟨(0, 0), fun o _ => by simp, rfl⟩) h
  obtain ⟨z, hr, hc⟩ := run_zeroValue w hz'
  simp [execOp, Instr.alloc, hr, run_newVar, hc]
theorem mx_box {e : TypeId} {x : Operand} {v : Value} {cs : List Value} (hk : kd i = 1) (hx : evalF f x = v) (hc : v.cells.toList = cs) (h : ∀ g, Mix P n ops kd Lb Z l (upd f d (.pointer (some ⟨g, 0, none⟩))) (Blk g e cs :: L)) : Mix P n ops kd Lb Z ((i, ⟨some d, .box e x, ty, pos, af, none⟩) :: l) f L := by
  refine mx_new (obj := .cells v.cells e) (mk := fun g => .pointer (some ⟨g, 0, none⟩)) (fun g => Blk g e cs) hk rfl rfl (fun w => ?_) (fun g => ⟨(0, 0), fun o _ => by simp, by rw [← hc]⟩) h
  simp [execOp, Instr.box, hx, run_newVar]
theorem mx_boxA {e : TypeId} {x : Operand} {cs : List Value} (hk : kd i = 1) (hx : evalF f x = .agg cs.toArray) (h : ∀ g, Mix P n ops kd Lb Z l (upd f d (.pointer (some ⟨g, 0, none⟩))) (Blk g e cs :: L)) : Mix P n ops kd Lb Z ((i, ⟨some d, .box e x, ty, pos, af, none⟩) :: l) f L :=
  mx_box hk hx (by simp [Value.cells]) h
theorem mx_slice0 {t e : TypeId} {sz : Nat} (hk : kd i = 1) (ht : P.underlying t = some (.slice e)) (hs : P.cellsOf e = sz) (hp : Nat.blt 0 sz = true) (h : ∀ g, Mix P n ops kd Lb Z l (upd f d (.slice (some ⟨g, 0, none⟩) 0 0)) L) : Mix P n ops kd Lb Z ((i, ⟨some d, .buildSlice t 0 #[], ty, pos, af, none⟩) :: l) f L := by
  refine mx_new (obj := .cells #[] e) (mk := fun g => .slice (some ⟨g, 0, none⟩) 0 0) (fun g => Blk g e []) hk rfl rfl (fun w => ?_) (fun g => ⟨(0, 0), fun o _ => by simp, rfl⟩) (fun g => Mix.sub (Sub.drop _ (Sub.refl L)) (h g))
  simp [execOp, Instr.buildSlice, run_underlying ht, run_sizeOf' w hs (Nat.le_of_ble_eq_true hp), Instr.fill, newRow, Array.range_zero']
end
section
variable {P : Program} {n : Nat} {ops : Array Oper} {Q : Post} {f : Nat → Value} {L : List Assn} {rest : List Oper} {d : Nat} {ty : TypeId} {pos : String} {af : Array Edge} {gd : Option (Nat × Bool)}
/-- A remainder of which it is known what it is. -/
theorem vl_rem0e {k : IntKind} {xt yt : TypeId} {x y : Operand} {a b r : Int} (hx : evalF f x = .int k a) (hy : evalF f y = .int k b) (he : a % b = r) (ha : 0 ≤ a) (hb : 0 < b) :
    Val P ⟨some d, .binOp .rem xt x y yt, ty, pos, af, gd⟩ f L (.int k r) := by rw [← he]; exact vl_rem0 hx hy ha hb
theorem vl_addu8 {xt yt : TypeId} {x y : Operand} {a b : Int} (hx : evalF f x = .int .u8 a) (hy : evalF f y = .int .u8 b) (h1 : 0 ≤ a + b) (h2 : a + b ≤ 255) :
    Val P ⟨some d, .binOp .add xt x y yt, ty, pos, af, gd⟩ f L (.int .u8 (a + b)) := by
  have := vl_addw (P := P) (d := d) (ty := ty) (pos := pos) (af := af) (gd := gd) (xt := xt) (yt := yt) (L := L) hx hy
  rwa [wrap_u8 h1 h2] at this
theorem vl_lss_t {xt yt : TypeId} {x y : Operand} {k : IntKind} {a b : Int} (hx : evalF f x = .int k a) (hy : evalF f y = .int k b) (hp : a < b) : Val P ⟨some d, .binOp .lss xt x y yt, ty, pos, af, gd⟩ f L (.bool true) := by
  have := vl_lss (P := P) (d := d) (ty := ty) (pos := pos) (af := af) (gd := gd) (xt := xt) (yt := yt) (L := L) hx hy
  rwa [decide_eq_true hp] at this
theorem vl_lss_f {xt yt : TypeId} {x y : Operand} {k : IntKind} {a b : Int} (hx : evalF f x = .int k a) (hy : evalF f y = .int k b) (hp : ¬ (a < b)) : Val P ⟨some d, .binOp .lss xt x y yt, ty, pos, af, gd⟩ f L (.bool false) := by
  have := vl_lss (P := P) (d := d) (ty := ty) (pos := pos) (af := af) (gd := gd) (xt := xt) (yt := yt) (L := L) hx hy
  rwa [decide_eq_false hp] at this
theorem vl_leq_t {xt yt : TypeId} {x y : Operand} {k : IntKind} {a b : Int} (hx : evalF f x = .int k a) (hy : evalF f y = .int k b) (hp : a ≤ b) : Val P ⟨some d, .binOp .leq xt x y yt, ty, pos, af, gd⟩ f L (.bool true) := by
  have := vl_leq (P := P) (d := d) (ty := ty) (pos := pos) (af := af) (gd := gd) (xt := xt) (yt := yt) (L := L) hx hy
  rwa [decide_eq_true hp] at this
theorem vl_leq_f {xt yt : TypeId} {x y : Operand} {k : IntKind} {a b : Int} (hx : evalF f x = .int k a) (hy : evalF f y = .int k b) (hp : ¬ (a ≤ b)) : Val P ⟨some d, .binOp .leq xt x y yt, ty, pos, af, gd⟩ f L (.bool false) := by
  have := vl_leq (P := P) (d := d) (ty := ty) (pos := pos) (af := af) (gd := gd) (xt := xt) (yt := yt) (L := L) hx hy
  rwa [decide_eq_false hp] at this
theorem vl_gtr_t {xt yt : TypeId} {x y : Operand} {k : IntKind} {a b : Int} (hx : evalF f x = .int k a) (hy : evalF f y = .int k b) (hp : b < a) : Val P ⟨some d, .binOp .gtr xt x y yt, ty, pos, af, gd⟩ f L (.bool true) := by
  have := vl_gtr (P := P) (d := d) (ty := ty) (pos := pos) (af := af) (gd := gd) (xt := xt) (yt := yt) (L := L) hx hy
  rwa [decide_eq_true hp] at this
theorem vl_gtr_f {xt yt : TypeId} {x y : Operand} {k : IntKind} {a b : Int} (hx : evalF f x = .int k a) (hy : evalF f y = .int k b) (hp : ¬ (b < a)) : Val P ⟨some d, .binOp .gtr xt x y yt, ty, pos, af, gd⟩ f L (.bool false) := by
  have := vl_gtr (P := P) (d := d) (ty := ty) (pos := pos) (af := af) (gd := gd) (xt := xt) (yt := yt) (L := L) hx hy
  rwa [decide_eq_false hp] at this
theorem vl_geq_t {xt yt : TypeId} {x y : Operand} {k : IntKind} {a b : Int} (hx : evalF f x = .int k a) (hy : evalF f y = .int k b) (hp : b ≤ a) : Val P ⟨some d, .binOp .geq xt x y yt, ty, pos, af, gd⟩ f L (.bool true) := by
  have := vl_geq (P := P) (d := d) (ty := ty) (pos := pos) (af := af) (gd := gd) (xt := xt) (yt := yt) (L := L) hx hy
  rwa [decide_eq_true hp] at this
theorem vl_geq_f {xt yt : TypeId} {x y : Operand} {k : IntKind} {a b : Int} (hx : evalF f x = .int k a) (hy : evalF f y = .int k b) (hp : ¬ (b ≤ a)) : Val P ⟨some d, .binOp .geq xt x y yt, ty, pos, af, gd⟩ f L (.bool false) := by
  have := vl_geq (P := P) (d := d) (ty := ty) (pos := pos) (af := af) (gd := gd) (xt := xt) (yt := yt) (L := L) hx hy
  rwa [decide_eq_false hp] at this
theorem vl_eql_t {xt yt : TypeId} {x y : Operand} {k : IntKind} {a b : Int} (hx : evalF f x = .int k a) (hy : evalF f y = .int k b) (hp : a = b) : Val P ⟨some d, .binOp .eql xt x y yt, ty, pos, af, gd⟩ f L (.bool true) := by
  have := vl_eql (P := P) (d := d) (ty := ty) (pos := pos) (af := af) (gd := gd) (xt := xt) (yt := yt) (L := L) hx hy
  rwa [decide_eq_true hp] at this
theorem vl_eql_f {xt yt : TypeId} {x y : Operand} {k : IntKind} {a b : Int} (hx : evalF f x = .int k a) (hy : evalF f y = .int k b) (hp : ¬ (a = b)) : Val P ⟨some d, .binOp .eql xt x y yt, ty, pos, af, gd⟩ f L (.bool false) := by
  have := vl_eql (P := P) (d := d) (ty := ty) (pos := pos) (af := af) (gd := gd) (xt := xt) (yt := yt) (L := L) hx hy
  rwa [decide_eq_false hp] at this
theorem vl_neq_t {xt yt : TypeId} {x y : Operand} {k : IntKind} {a b : Int} (hx : evalF f x = .int k a) (hy : evalF f y = .int k b) (hp : a ≠ b) : Val P ⟨some d, .binOp .neq xt x y yt, ty, pos, af, gd⟩ f L (.bool true) := by
  have := vl_neq (P := P) (d := d) (ty := ty) (pos := pos) (af := af) (gd := gd) (xt := xt) (yt := yt) (L := L) hx hy
  rwa [decide_eq_true hp] at this
theorem vl_neq_f {xt yt : TypeId} {x y : Operand} {k : IntKind} {a b : Int} (hx : evalF f x = .int k a) (hy : evalF f y = .int k b) (hp : ¬ (a ≠ b)) : Val P ⟨some d, .binOp .neq xt x y yt, ty, pos, af, gd⟩ f L (.bool false) := by
  have := vl_neq (P := P) (d := d) (ty := ty) (pos := pos) (af := af) (gd := gd) (xt := xt) (yt := yt) (L := L) hx hy
  rwa [decide_eq_false hp] at this
theorem vl_eql_bl {xt yt : TypeId} {x y : Operand} {a b r : Bool} (hx : evalF f x = .bool a) (hy : evalF f y = .bool b) (hu : P.underlying xt = some .bool) (hr : decide (a = b) = r) : Val P ⟨some d, .binOp .eql xt x y yt, ty, pos, af, gd⟩ f L (.bool r) := by
  rw [← hr]; exact vl_eql_b hx hy hu
theorem vl_eql_st {xt yt : TypeId} {x y : Operand} {a b : List UInt8} (hx : evalF f x = .string (S a)) (hy : evalF f y = .string (S b)) (hp : a = b) : Val P ⟨some d, .binOp .eql xt x y yt, ty, pos, af, gd⟩ f L (.bool true) := by
  have := vl_eql_s (P := P) (d := d) (ty := ty) (pos := pos) (af := af) (gd := gd) (xt := xt) (yt := yt) (L := L) hx hy
  rwa [decide_eq_true hp] at this
theorem vl_eql_sf {xt yt : TypeId} {x y : Operand} {a b : List UInt8} (hx : evalF f x = .string (S a)) (hy : evalF f y = .string (S b)) (hp : ¬ (a = b)) : Val P ⟨some d, .binOp .eql xt x y yt, ty, pos, af, gd⟩ f L (.bool false) := by
  have := vl_eql_s (P := P) (d := d) (ty := ty) (pos := pos) (af := af) (gd := gd) (xt := xt) (yt := yt) (L := L) hx hy
  rwa [decide_eq_false hp] at this
theorem vl_neq_bl {xt yt : TypeId} {x y : Operand} {a b r : Bool} (hx : evalF f x = .bool a) (hy : evalF f y = .bool b) (hu : P.underlying xt = some .bool) (hr : decide (a ≠ b) = r) : Val P ⟨some d, .binOp .neq xt x y yt, ty, pos, af, gd⟩ f L (.bool r) := by
  rw [← hr]; exact vl_neq_b hx hy hu
theorem vl_neq_st {xt yt : TypeId} {x y : Operand} {a b : List UInt8} (hx : evalF f x = .string (S a)) (hy : evalF f y = .string (S b)) (hp : a ≠ b) : Val P ⟨some d, .binOp .neq xt x y yt, ty, pos, af, gd⟩ f L (.bool true) := by
  have := vl_neq_s (P := P) (d := d) (ty := ty) (pos := pos) (af := af) (gd := gd) (xt := xt) (yt := yt) (L := L) hx hy
  rwa [decide_eq_true hp] at this
theorem vl_neq_sf {xt yt : TypeId} {x y : Operand} {a b : List UInt8} (hx : evalF f x = .string (S a)) (hy : evalF f y = .string (S b)) (hp : ¬ (a ≠ b)) : Val P ⟨some d, .binOp .neq xt x y yt, ty, pos, af, gd⟩ f L (.bool false) := by
  have := vl_neq_s (P := P) (d := d) (ty := ty) (pos := pos) (af := af) (gd := gd) (xt := xt) (yt := yt) (L := L) hx hy
  rwa [decide_eq_false hp] at this
theorem vl_field_ {s : TypeId} {x : Operand} {g o fi off o' : Nat} (hx : evalF f x = .pointer (some ⟨g, o, none⟩)) (hf : fieldOff P s fi = some off) (ho : o + off = o') : Val P ⟨some d, .fieldAddr s x fi, ty, pos, af, gd⟩ f L (.pointer (some ⟨g, o', none⟩)) := by
  rw [← ho]; exact vl_field hx hf
theorem vl_fieldS_ {α : Type} [Rep α] {v : Value} {xs : List α} {s : TypeId} {x : Operand} {i sz o fi off o' : Nat} (hx : evalF f x = elt v (i * sz + o)) (hr : RdT L v xs) (hi : i < xs.length) (hf : fieldOff P s fi = some off) (ho : o + off = o') : Val P ⟨some d, .fieldAddr s x fi, ty, pos, af, gd⟩ f L (elt v (i * sz + o')) := by
  rw [← ho]; exact vl_fieldS hx hr hi hf
theorem vl_idxA_ {t e : TypeId} {x y : Operand} {g o m sz o' : Nat} {k : IntKind} {j : Int} (hx : evalF f x = .pointer (some ⟨g, o, none⟩)) (hy : evalF f y = .int k j) (hu : P.underlying t = some (.array m e)) (hs : P.cellsOf e = sz) (hp : Nat.blt 0 sz = true)
    (h0 : 0 ≤ j) (h1 : j < (m : Int)) (ho : o + j.toNat * sz = o') : Val P ⟨some d, .indexAddr t x y, ty, pos, af, gd⟩ f L (.pointer (some ⟨g, o', none⟩)) := by
  rw [← ho]; exact vl_idxA hx hy hu hs hp h0 h1
end
/-- A call, by the callee's contract. -/
theorem st_call {P : Program} {n : Nat} {ops : Array Oper} {Q : Post} {f : Nat → Value} {L : List Assn} {rest : List Oper} {d : Option Nat} {ty : TypeId} {pos : String} {af : Array Edge} {fn : FuncId} {xs : List Operand} {vs : List Value} {ts : Array TypeId} {R : Value → List Assn → Prop}
    (hd : dstOk n d = true) (hrun : ∀ (xs : Array Value) (w : World), (callFunc fn xs).run P w = .ok (.enter fn xs) w) (hf : Fn P fn vs.toArray L R) (ha : xs.map (evalF f) = vs) (h : ∀ v L', R v L' → ExL P n ops rest Q (updo f d v) L') :
    ExL P n ops (⟨d, .call ⟨.value (.func fn), xs.toArray, ts⟩, ty, pos, af, none⟩ :: rest) Q f L :=
  ExL.call rfl hd rfl hrun (by rw [List.map_toArray, ha]; exact hf) h
/-- A call with what stands at place i brought to the front. -/
theorem st_callAt (i : Nat) {P : Program} {n : Nat} {ops : Array Oper} {Q : Post} {f : Nat → Value} {L : List Assn} {A : Assn} {rest : List Oper} {d : Option Nat} {ty : TypeId} {pos : String} {af : Array Edge} {fn : FuncId} {xs : List Operand} {vs : List Value} {ts : Array TypeId} {R : Value → List Assn → Prop}
    (hd : dstOk n d = true) (hrun : ∀ (xs : Array Value) (w : World), (callFunc fn xs).run P w = .ok (.enter fn xs) w) (hi : L[i]? = some A) (hf : Fn P fn vs.toArray (A :: L.eraseIdx i) R) (ha : xs.map (evalF f) = vs) (h : ∀ v L', R v L' → ExL P n ops rest Q (updo f d v) L') :
    ExL P n ops (⟨d, .call ⟨.value (.func fn), xs.toArray, ts⟩, ty, pos, af, none⟩ :: rest) Q f L :=
  st_call hd hrun (hf.sub (Sub.front i hi)) ha h
/-! Which kind of operation it is. -/
section
variable {P : Program} {f : Nat → Value} {L : List Assn} {v : Value} {dd : Option Nat} {ty : TypeId} {pos : String} {af : Array Edge} {gd : Option (Nat × Bool)}
theorem isLoad {t : TypeId} {x : Operand} (h : Val P ⟨dd, .load t x, ty, pos, af, gd⟩ f L v) : Val P ⟨dd, .load t x, ty, pos, af, gd⟩ f L v := h
theorem isField {t : TypeId} {x : Operand} {i : Nat} (h : Val P ⟨dd, .fieldAddr t x i, ty, pos, af, gd⟩ f L v) : Val P ⟨dd, .fieldAddr t x i, ty, pos, af, gd⟩ f L v := h
theorem isIdx {t : TypeId} {x y : Operand} (h : Val P ⟨dd, .indexAddr t x y, ty, pos, af, gd⟩ f L v) : Val P ⟨dd, .indexAddr t x y, ty, pos, af, gd⟩ f L v := h
theorem isBin {op : BinOp} {t u : TypeId} {x y : Operand} (h : Val P ⟨dd, .binOp op t x y u, ty, pos, af, gd⟩ f L v) : Val P ⟨dd, .binOp op t x y u, ty, pos, af, gd⟩ f L v := h
theorem isCall {b : Builtin} {xs : Array Operand} {ts : Array TypeId} (h : Val P ⟨dd, .call ⟨.builtin b, xs, ts⟩, ty, pos, af, gd⟩ f L v) : Val P ⟨dd, .call ⟨.builtin b, xs, ts⟩, ty, pos, af, gd⟩ f L v := h
theorem isSlice {t : TypeId} {x : Operand} {a b c : Option Operand} (h : Val P ⟨dd, .slice t x a b c, ty, pos, af, gd⟩ f L v) : Val P ⟨dd, .slice t x a b c, ty, pos, af, gd⟩ f L v := h
theorem isLss {t u : TypeId} {x y : Operand} (h : Val P ⟨dd, .binOp .lss t x y u, ty, pos, af, gd⟩ f L v) : Val P ⟨dd, .binOp .lss t x y u, ty, pos, af, gd⟩ f L v := h
theorem isEql {t u : TypeId} {x y : Operand} (h : Val P ⟨dd, .binOp .eql t x y u, ty, pos, af, gd⟩ f L v) : Val P ⟨dd, .binOp .eql t x y u, ty, pos, af, gd⟩ f L v := h
theorem isNeq {t u : TypeId} {x y : Operand} (h : Val P ⟨dd, .binOp .neq t x y u, ty, pos, af, gd⟩ f L v) : Val P ⟨dd, .binOp .neq t x y u, ty, pos, af, gd⟩ f L v := h
theorem isLeq {t u : TypeId} {x y : Operand} (h : Val P ⟨dd, .binOp .leq t x y u, ty, pos, af, gd⟩ f L v) : Val P ⟨dd, .binOp .leq t x y u, ty, pos, af, gd⟩ f L v := h
theorem isGtr {t u : TypeId} {x y : Operand} (h : Val P ⟨dd, .binOp .gtr t x y u, ty, pos, af, gd⟩ f L v) : Val P ⟨dd, .binOp .gtr t x y u, ty, pos, af, gd⟩ f L v := h
theorem isGeq {t u : TypeId} {x y : Operand} (h : Val P ⟨dd, .binOp .geq t x y u, ty, pos, af, gd⟩ f L v) : Val P ⟨dd, .binOp .geq t x y u, ty, pos, af, gd⟩ f L v := h
theorem isConv {t u : TypeId} {x : Operand} (h : Val P ⟨dd, .convert t u x, ty, pos, af, gd⟩ f L v) : Val P ⟨dd, .convert t u x, ty, pos, af, gd⟩ f L v := h
variable {n : Nat} {ops : Array Oper} {Q : Post} {rest : List Oper}
theorem exlStore {t : TypeId} {x y : Operand} (h : ExL P n ops (⟨dd, .store t x y, ty, pos, af, gd⟩ :: rest) Q f L) : ExL P n ops (⟨dd, .store t x y, ty, pos, af, gd⟩ :: rest) Q f L := h
theorem exlAppend {xs : Array Operand} {ts : Array TypeId} (h : ExL P n ops (⟨dd, .call ⟨.builtin .append, xs, ts⟩, ty, pos, af, gd⟩ :: rest) Q f L) : ExL P n ops (⟨dd, .call ⟨.builtin .append, xs, ts⟩, ty, pos, af, gd⟩ :: rest) Q f L := h
theorem exlGuard {o : Op} {jw : Nat × Bool} (h : ExL P n ops (⟨dd, o, ty, pos, af, some jw⟩ :: rest) Q f L) : ExL P n ops (⟨dd, o, ty, pos, af, some jw⟩ :: rest) Q f L := h
end
/-- What is returned: temporaries, variables. -/
def RVal (P : Program) (f : Nat → Value) (L : List Assn) : ResultVar → Value → Prop
  | .tmp t, v => f t = v
  | .cell a t, v => ∃ ad, f a = .pointer (some ad) ∧ ∀ F w, Sats w L F → (loadVar t ad).run P w = .ok v w
def RVals (P : Program) (f : Nat → Value) (L : List Assn) : List ResultVar → List Value → Prop
  | [], [] => True
  | r :: rs, v :: vs => RVal P f L r v ∧ RVals P f L rs vs
  | _, _ => False
section
variable {P : Program} {f : Nat → Value} {L : List Assn} {fn : Func}
theorem mapM_res {w : World} (g : ResultVar → Sem Value) : ∀ {rs : List ResultVar} {vs : List Value}, RVals P f L rs vs → (∀ r v, RVal P f L r v → (g r).run P w = .ok v w) → (rs.mapM g).run P w = .ok vs w
  | [], [], _, _ => rfl
  | r :: rs, v :: vs, ⟨h1, h2⟩, hg => by
    simp only [List.mapM_cons, Sem.run_bind, hg r v h1, Result.andThen_ok, mapM_res g h2 hg, Sem.run_pure]
theorem res_any {rs : List ResultVar} {vs : List Value} (hr : fn.results = rs.toArray) (h : RVals P f L rs vs) : ResV P fn f L (if h : vs.toArray.size = 1 then vs.toArray[0] else .tuple vs.toArray) := fun F w tmps ht s => by
  unfold results
  rw [hr, Array.mapM_eq_mapM_toList]
  simp only [Sem.run_bind, Sem.run_map]
  rw [mapM_res _ h fun r v hv => ?_]
  · rfl
  · cases r with
    | tmp t =>
      have hv : f t = v := hv
      simp only [Sem.run_pure, ht, hv]
    | cell a t =>
      obtain ⟨ad, h1, h2⟩ := hv
      simp only [ht, h1, asAddr, Sem.run_bind, Sem.run_pure, Result.andThen_ok, h2 F w s]
theorem res_1 {r : ResultVar} {v : Value} (hr : fn.results = #[r]) (h : RVal P f L r v) : ResV P fn f L v := res_any (rs := [r]) (vs := [v]) hr ⟨h, trivial⟩
theorem res_2 {r1 r2 : ResultVar} {v1 v2 : Value} (hr : fn.results = #[r1, r2]) (h1 : RVal P f L r1 v1) (h2 : RVal P f L r2 v2) : ResV P fn f L (.tuple #[v1, v2]) := res_any (rs := [r1, r2]) (vs := [v1, v2]) hr ⟨h1, h2, trivial⟩
theorem res_3 {r1 r2 r3 : ResultVar} {v1 v2 v3 : Value} (hr : fn.results = #[r1, r2, r3]) (h1 : RVal P f L r1 v1) (h2 : RVal P f L r2 v2) (h3 : RVal P f L r3 v3) : ResV P fn f L (.tuple #[v1, v2, v3]) := res_any (rs := [r1, r2, r3]) (vs := [v1, v2, v3]) hr ⟨h1, h2, h3, trivial⟩
theorem res_0 (hr : fn.results = #[]) : ResV P fn f L (.tuple #[]) := res_any (rs := []) (vs := []) hr trivial
theorem rv_tmp {t : Tmp} {v : Value} (h : f t = v) : RVal P f L (.tmp t) v := h
theorem rv_cell1 (i : Nat) {a : Tmp} {t bt : TypeId} {g o : Nat} {cs : List Value} {v : Value} (hx : f a = .pointer (some ⟨g, o, none⟩)) (hi : L[i]? = some (Blk g bt cs)) (hA : aggB P t = some false) (hv : cs[o]? = some v) : RVal P f L (.cell a t) v :=
  ⟨_, hx, fun F w s => run_loadVar1 w hA (blk_cell hi hv s)⟩
theorem rv_cellW (i : Nat) {a : Tmp} {t bt : TypeId} {g : Nat} {cs : List Value} (hx : f a = .pointer (some ⟨g, 0, none⟩)) (hi : L[i]? = some (Blk g bt cs)) (hA : aggB P t = some true) (hm : P.cellsOf t = cs.length) (hp : Nat.blt 0 cs.length = true) : RVal P f L (.cell a t) (.agg cs.toArray) :=
  ⟨_, hx, fun F w s => run_loadVarA w hA hm (Nat.le_of_ble_eq_true hp) fun j v hj => by rw [addr_add, Nat.zero_add]; exact blk_cell hi hj s⟩
/-- The end of a walk. -/
theorem fin_ret {R : Value → List Assn → Prop} {v : Value} (hv : ResV P fn f L v) (h : ∃ L', Sub L' L ∧ R v L') : fin P fn R .ret f L := let ⟨L', hs, h⟩ := h; ⟨v, L', hv, hs, h⟩
theorem fin_norm {R : Value → List Assn → Prop} {v : Value} (hv : ResV P fn f L v) (h : ∃ L', Sub L' L ∧ R v L') : fin P fn R .normal f L := let ⟨L', hs, h⟩ := h; ⟨v, L', hv, hs, h⟩
end
end Go.Proofs.Ytcclbplccnaonaa
/- Slices of slices, texts out of bytes, bytes out of texts, elements written. No condition. -/
namespace Go.Proofs.Ytcclbplccnaonaa
open Go.RowKit
set_option linter.unusedSimpArgs false
set_option linter.unusedVariables false
theorem cellsOf_bytes (l : List UInt8) : cellsOf l = byteVals l := by
  simp only [cellsOf, byteVals]
  induction l with
  | nil => rfl
  | cons a l ih => simp only [List.flatMap_cons, List.map_cons, ih]; rfl
section
variable {L : List Assn} {α : Type} [Rep α] {v : Value} {xs : List α}
theorem RdT.cap (hr : RdT L v xs) {w : World} {F : Frag} (s : Sats w L F) : ∃ a c, v = .slice a xs.length c ∧ xs.length ≤ c ∧ c ≤ maxLen := sl_cap (hr w F s)
theorem RdT.to (hr : RdT L v xs) {h : Nat} (hk : h ≤ xs.length) {sz : Nat} (hsz : Rep.sz α = sz) : RdT L (Go.Proofs.Ytcclbplccnaonaa.subs v 0 h sz) (xs.take h) := by
  subst hsz
  have := RdT.subs hr (Nat.zero_le h) hk
  simpa using this
theorem RdT.off (hr : RdT L v xs) {l : Nat} (hk : l ≤ xs.length) {sz k : Nat} (hsz : Rep.sz α = sz) (hkk : k = xs.length) : RdT L (Go.Proofs.Ytcclbplccnaonaa.subs v l k sz) (xs.drop l) := by
  subst hsz; subst hkk
  have := RdT.subs hr hk (Nat.le_refl xs.length)
  rwa [List.take_of_length_le (by simp)] at this
theorem RdT.mid (hr : RdT L v xs) {l h : Nat} (hl : l ≤ h) (hk : h ≤ xs.length) {sz : Nat} (hsz : Rep.sz α = sz) : RdT L (Go.Proofs.Ytcclbplccnaonaa.subs v l h sz) ((xs.drop l).take (h - l)) := by
  subst hsz
  exact RdT.subs hr hl hk
theorem RdT.to3 (hr : RdT L v xs) {h m : Nat} (hk : h ≤ m) (hm : m ≤ xs.length) {sz : Nat} (hsz : Rep.sz α = sz) : RdT L (Go.Proofs.Ytcclbplccnaonaa.subs3 v 0 h m sz) (xs.take h) := by
  subst hsz
  have := RdT.subs3 hr (Nat.zero_le h) hk hm
  simpa using this
end
section
variable {P : Program} {w : World} {t e : TypeId} {sz : Nat} {a : Option Addr} {k c : Nat}
theorem run_sl {lo hi mx : Option Value} (hu : P.underlying t = some (.slice e)) (hs : P.cellsOf e = sz) (hp : 0 < sz) {l h m : Nat}
    (hb : (Instr.sliceBounds true k c lo hi mx).run P w = .ok (l, h, m) w) : (Instr.sliceAt t (.slice a k c) lo hi mx).run P w = .ok (.slice (if m = l then a else a.map (·.add (l * sz))) (h - l) (m - l)) w := by
  simp only [Instr.sliceAt, Instr.slice, Sem.run_bind, run_underlying hu, Result.andThen_ok, hb, run_sizeOf' w hs hp, Sem.run_pure]
theorem run_bd {k : IntKind} {i : Int} {y : Nat} {code : BoundsCode} (h0 : 0 ≤ i) (h1 : i ≤ y) : (Instr.sliceBound (.int k i) y code).run P w = .ok i.toNat w := by
  simp [Instr.sliceBound, asIntOf, h0, h1]
end
section
variable {P : Program} {n : Nat} {ops : Array Oper} {Q : Post} {f : Nat → Value} {L : List Assn} {rest : List Oper} {d : Nat} {ty : TypeId} {pos : String} {af : Array Edge} {gd : Option (Nat × Bool)}
variable {α : Type} [Rep α] {v : Value} {xs ys : List α}
theorem vl_slH {t e : TypeId} {x y : Operand} {k : IntKind} {h : Int} {sz : Nat} (hx : evalF f x = v) (hy : evalF f y = .int k h) (hu : P.underlying t = some (.slice e)) (hr : RdT L v xs) (hs : P.cellsOf e = sz) (hp : Nat.blt 0 sz = true) (h0 : 0 ≤ h) (h1 : h ≤ (xs.length : Int)) :
    Val P ⟨some d, .slice t x none (some y) none, ty, pos, af, gd⟩ f L (subs v 0 h.toNat sz) := fun F w s => by
  obtain ⟨a, c, rfl, hc, _⟩ := hr.cap s
  have := run_sl (P := P) (w := w) (a := a) (k := xs.length) (c := c) (lo := none) (hi := some (.int k h)) (mx := none) hu hs (Nat.le_of_ble_eq_true hp) (l := 0) (h := h.toNat) (m := c) (by
    simp only [Instr.sliceBounds, Sem.run_bind, Sem.run_pure, Result.andThen_ok, run_bd h0 (show h ≤ (c : Int) by omega)])
  simp [execOp, hx, hy, this, subs]
theorem vl_slL {t e : TypeId} {x y : Operand} {k : IntKind} {l : Int} {sz : Nat} (hx : evalF f x = v) (hy : evalF f y = .int k l) (hu : P.underlying t = some (.slice e)) (hr : RdT L v xs) (hs : P.cellsOf e = sz) (hp : Nat.blt 0 sz = true) (h0 : 0 ≤ l) (h1 : l ≤ (xs.length : Int)) :
    Val P ⟨some d, .slice t x (some y) none none, ty, pos, af, gd⟩ f L (subs v l.toNat xs.length sz) := fun F w s => by
  obtain ⟨a, c, rfl, hc, _⟩ := hr.cap s
  have := run_sl (P := P) (w := w) (a := a) (k := xs.length) (c := c) (lo := some (.int k l)) (hi := none) (mx := none) hu hs (Nat.le_of_ble_eq_true hp) (l := l.toNat) (h := xs.length) (m := c) (by
    simp only [Instr.sliceBounds, Sem.run_bind, Sem.run_pure, Result.andThen_ok, run_bd h0 h1])
  simp [execOp, hx, hy, this, subs]
theorem vl_slLH {t e : TypeId} {x y z : Operand} {k k' : IntKind} {l h : Int} {sz : Nat} (hx : evalF f x = v) (hy : evalF f y = .int k l) (hz : evalF f z = .int k' h) (hu : P.underlying t = some (.slice e)) (hr : RdT L v xs) (hs : P.cellsOf e = sz) (hp : Nat.blt 0 sz = true) (h0 : 0 ≤ l) (hlh : l ≤ h) (h1 : h ≤ (xs.length : Int)) :
    Val P ⟨some d, .slice t x (some y) (some z) none, ty, pos, af, gd⟩ f L (subs v l.toNat h.toNat sz) := fun F w s => by
  obtain ⟨a, c, rfl, hc, _⟩ := hr.cap s
  have := run_sl (P := P) (w := w) (a := a) (k := xs.length) (c := c) (lo := some (.int k l)) (hi := some (.int k' h)) (mx := none) hu hs (Nat.le_of_ble_eq_true hp) (l := l.toNat) (h := h.toNat) (m := c) (by
    simp only [Instr.sliceBounds, Sem.run_bind, Sem.run_pure, Result.andThen_ok, run_bd (show 0 ≤ h by omega) (show h ≤ (c : Int) by omega), run_bd h0 (show l ≤ (h.toNat : Int) by omega)])
  simp [execOp, hx, hy, hz, this, subs]
theorem vl_slHM {t e : TypeId} {x y z : Operand} {k k' : IntKind} {h m : Int} {sz : Nat} (hx : evalF f x = v) (hy : evalF f y = .int k h) (hz : evalF f z = .int k' m) (hu : P.underlying t = some (.slice e)) (hr : RdT L v xs) (hs : P.cellsOf e = sz) (hp : Nat.blt 0 sz = true) (h0 : 0 ≤ h) (hlh : h ≤ m) (h1 : m ≤ (xs.length : Int)) :
    Val P ⟨some d, .slice t x none (some y) (some z), ty, pos, af, gd⟩ f L (subs3 v 0 h.toNat m.toNat sz) := fun F w s => by
  obtain ⟨a, c, rfl, hc, _⟩ := hr.cap s
  have := run_sl (P := P) (w := w) (a := a) (k := xs.length) (c := c) (lo := none) (hi := some (.int k h)) (mx := some (.int k' m)) hu hs (Nat.le_of_ble_eq_true hp) (l := 0) (h := h.toNat) (m := m.toNat) (by
    simp only [Instr.sliceBounds, Sem.run_bind, Sem.run_pure, Result.andThen_ok, run_bd (show 0 ≤ m by omega) (show m ≤ (c : Int) by omega), run_bd h0 (show h ≤ (m.toNat : Int) by omega)])
  simp [execOp, hx, hy, hz, this, subs3]
/-- A part of a text. -/
theorem vl_txH {t : TypeId} {x y : Operand} {k : IntKind} {h : Int} {a : List UInt8} (hx : evalF f x = .string (S a)) (hy : evalF f y = .int k h) (hu : P.underlying t = some .string) (h0 : 0 ≤ h) (h1 : h ≤ (a.length : Int)) :
    Val P ⟨some d, .slice t x none (some y) none, ty, pos, af, gd⟩ f L (.string (S (a.take h.toNat))) := fun F w s => by
  have e : (S a).extract 0 h.toNat = S (a.take h.toNat) := by rw [S_extract]; simp
  have hb : (Instr.sliceBounds false (S a).size (S a).size none (some (.int k h)) none).run P w = .ok (0, h.toNat, (S a).size) w := by
    simp only [Instr.sliceBounds, Sem.run_bind, Sem.run_pure, Result.andThen_ok, run_bd h0 (show h ≤ ((S a).size : Int) by rw [S_size]; exact h1)]
  rw [← e]
  generalize S a = sa at *
  simp [execOp, hx, hy, Instr.sliceAt, Instr.slice, run_underlying hu, hb]
theorem vl_txL {t : TypeId} {x y : Operand} {k : IntKind} {l : Int} {a : List UInt8} (hx : evalF f x = .string (S a)) (hy : evalF f y = .int k l) (hu : P.underlying t = some .string) (h0 : 0 ≤ l) (h1 : l ≤ (a.length : Int)) :
    Val P ⟨some d, .slice t x (some y) none none, ty, pos, af, gd⟩ f L (.string (S (a.drop l.toNat))) := fun F w s => by
  have e : (S a).extract l.toNat (S a).size = S (a.drop l.toNat) := by rw [S_extract, S_size, List.take_of_length_le (by simp)]
  have hb : (Instr.sliceBounds false (S a).size (S a).size (some (.int k l)) none none).run P w = .ok (l.toNat, (S a).size, (S a).size) w := by
    simp only [Instr.sliceBounds, Sem.run_bind, Sem.run_pure, Result.andThen_ok, run_bd h0 (show l ≤ ((S a).size : Int) by rw [S_size]; exact h1)]
  rw [← e]
  generalize S a = sa at *
  simp [execOp, hx, hy, Instr.sliceAt, Instr.slice, run_underlying hu, hb]
/-- string(b). -/
theorem vl_str {src dst e : TypeId} {x : Operand} {l : List UInt8} (hx : evalF f x = v) (hs : P.underlying src = some (.slice e)) (he : P.underlying e = some (.int .u8)) (hd : P.underlying dst = some .string) (hr : RdT L v l) :
    Val P ⟨some d, .convert src dst x, ty, pos, af, gd⟩ f L (.string (S l)) := fun F w s => by
  have h := hr w F s
  rw [cellsOf_bytes] at h
  have := Sl.str (P := P) h hs he hd
  simp [execOp, hx, this]
theorem vl_strstr {src dst : TypeId} {x : Operand} {s : ByteArray} {ds : TypeDesc} (hx : evalF f x = .string s) (hs : P.underlying src = some .string) (hd : P.underlying dst = some .string) : Val P ⟨some d, .convert src dst x, ty, pos, af, gd⟩ f L (.string s) := fun F w _ => by
  simp [execOp, hx, convert, run_underlying hs, run_underlying hd]
/-- A byte of one's own is written. -/
theorem set_take {α : Type} (l : List α) (m i : Nat) (x : α) (h : i < m) : (l.set i x).take m = (l.take m).set i x := by
  apply List.ext_getElem?
  intro j
  simp only [List.getElem?_take, List.getElem?_set, List.length_take]
  by_cases hj : j < m
  · by_cases hij : i = j
    · subst hij
      simp only [hj, if_true]
      by_cases hl : i < l.length
      · rw [if_pos hl, if_pos (by omega)]
      · rw [if_neg hl, if_neg (by omega)]
    · simp [hj, hij]
  · have : i ≠ j := by omega
    simp [hj, this]
theorem cellsOf_set {xs : List α} {i o : Nat} {u : Value} {a' : α} (hi : i < xs.length) (ho : o < Rep.sz α) (ha : Rep.cells a' = (Rep.cells (xs[i]'hi)).set o u) : (cellsOf xs).set (i * Rep.sz α + o) u = cellsOf (xs.set i a') := by
  induction xs generalizing i with
  | nil => simp at hi
  | cons x xs ih =>
    cases i with
    | zero =>
      simp only [Nat.zero_mul, Nat.zero_add, List.set_cons_zero, cellsOf, List.flatMap_cons]
      rw [List.set_append_left _ _ (by rw [Rep.len]; exact ho)]
      simp at ha
      rw [ha]
    | succ i =>
      simp only [List.set_cons_succ, cellsOf, List.flatMap_cons]
      have hl : (Rep.cells x).length = Rep.sz α := Rep.len x
      have : (i + 1) * Rep.sz α + o = (Rep.cells x).length + (i * Rep.sz α + o) := by rw [hl, Nat.add_mul]; omega
      rw [this, List.set_append_right _ _ (by omega)]
      have hi' : i < xs.length := by simpa using hi
      have := ih hi' (by simpa using ha)
      simp only [cellsOf] at this
      rw [show (Rep.cells x).length + (i * Rep.sz α + o) - (Rep.cells x).length = i * Rep.sz α + o by omega, this]
theorem st_storeS (r : Nat) {t e : TypeId} {x y : Operand} {i sz o : Nat} {u : Value} {a' : α} (hx : evalF f x = elt v (i * sz + o)) (hy : evalF f y = u) (h1 : u.oneCell' = true) (hr : L[r]? = some (RowT v e xs)) (hm : P.cellsOf t = 1) (hsz : Rep.sz α = sz) (hi : i < xs.length) (ho : Nat.blt o sz = true)
    (ha : Rep.cells a' = (Rep.cells (xs[i]'hi)).set o u) (h : ExL P n ops rest Q f (L.set r (RowT v e (xs.set i a')))) : ExL P n ops (⟨none, .store t x y, ty, pos, af, none⟩ :: rest) Q f L := by
  have ho := Nat.le_of_ble_eq_true ho
  subst hsz
  refine ExL.eff rfl rfl (R := fun _ L2 => L2 = L.set r (RowT v e (xs.set i a'))) (fun F w s => ?_) (fun v L2 e => by subst e; exact h)
  have hil : r < L.length := (List.getElem?_eq_some_iff.1 hr).1
  obtain ⟨hf, ⟨hl, hc⟩, dd, s'⟩ := Sats.pick hr s
  rcases hc with ⟨h0, _⟩ | ⟨g, cap, cur, rfl, rfl, hk, hcm, hsz2, htk⟩
  · omega
  · have hg := Sats.frame_left s' g _ (Frag.one_self g _)
    have hlt : i * Rep.sz α + o < xs.length * Rep.sz α := by
      have : (i + 1) * Rep.sz α ≤ xs.length * Rep.sz α := Nat.mul_le_mul_right _ hi
      rw [Nat.add_mul] at this
      omega
    have hcur : i * Rep.sz α + o < cur.size := by
      have : xs.length * Rep.sz α ≤ cap * Rep.sz α := Nat.mul_le_mul_right _ hk
      omega
    have hcell : w.cell? ⟨g, i * Rep.sz α + o, none⟩ = some cur[i * Rep.sz α + o] := by rw [cell_heap hg]; simp [hcur]
    have hfr : w.frozen? ⟨g, i * Rep.sz α + o, none⟩ = false := by rw [frozen_heap hg]; simp
    refine ⟨_, w.setCell ⟨g, i * Rep.sz α + o, none⟩ u, _, .inr ⟨?_, rfl⟩, Rest.refl w, ?_, rfl⟩
    · simp [execOp, hx, hy, elt, Instr.storeAt, Instr.sureAddr, storeVar, cells_one h1, run_sizeOf' w hm (by omega), storeCells, run_store P w _ u _ h1, addr_add, hcell, hfr]
    · refine Sats.rewrite (o' := .cells (cur.setIfInBounds (i * Rep.sz α + o) u) e (0, 0)) hil dd s' ?_ (fun k hk => ?_) ?_
      · refine ⟨cellsOf_len _, .inr ⟨g, cap, _, by simp, rfl, by simpa using hk, hcm, by simpa using hsz2, ?_⟩⟩
        rw [List.length_set, Array.toList_setIfInBounds, set_take _ _ _ _ hlt, htk, cellsOf_set hi ho ha]
      · rw [setCell_heap, if_neg hk]
      · rw [setCell_heap, if_pos rfl, hg]; simp
theorem st_storeB (r : Nat) {t e : TypeId} {x y : Operand} {i : Nat} {b : Int} {xs : List UInt8} (hx : evalF f x = elt v (i * 1 + 0)) (hy : evalF f y = .int .u8 b) (hb0 : 0 ≤ b) (hb1 : b ≤ 255) (hr : L[r]? = some (RowT v e xs)) (hm : P.cellsOf t = 1) (hi : i < xs.length)
    (h : ExL P n ops rest Q f (L.set r (RowT v e (xs.set i (UInt8.ofNat b.toNat))))) : ExL P n ops (⟨none, .store t x y, ty, pos, af, none⟩ :: rest) Q f L :=
  st_storeS r hx hy rfl hr hm rfl hi rfl (by
    show [Value.int .u8 ((UInt8.ofNat b.toNat).toNat : Int)] = [Value.int .u8 b]
    have : ((UInt8.ofNat b.toNat).toNat : Int) = b := by simp; omega
    rw [this]) h
end
end Go.Proofs.Ytcclbplccnaonaa
/- More of rows: rows that are but read, []byte(s), []T{..}, elements written, clear. No condition. -/
namespace Go.Proofs.Ytcclbplccnaonaa
open Go.RowKit
set_option linter.unusedSimpArgs false
set_option linter.unusedVariables false
theorem Sats.conv {w : World} {L : List Assn} {F : Frag} {A : Assn} {i : Nat} (hi : L[i]? = some A) (s : Sats w L F) : ∃ h, A h ∧ ∀ A' : Assn, A' h → Sats w (L.set i A') F := by
  obtain ⟨h, a, d, s'⟩ := Sats.pick hi s
  exact ⟨h, a, fun A' a' => Sats.put (List.getElem?_eq_some_iff.1 hi).1 a' d s'⟩
section
variable {α : Type} [Rep α]
/-- v is a slice with a row of its own that is but read. -/
def RoT (v : Value) (xs : List α) : Assn := fun h => ∃ g cap cur t fr, v = .slice (some ⟨g, 0, none⟩) xs.length cap ∧ h = Frag.one g (.cells cur t fr) ∧ xs.length ≤ cap ∧ cap ≤ maxLen ∧ cur.toList.take (xs.length * Rep.sz α) = cellsOf xs
theorem RdT.ro {L : List Assn} {v : Value} {xs : List α} (i : Nat) (hi : L[i]? = some (RoT v xs)) : RdT L v xs := fun w F s => by
  obtain ⟨h, ⟨g, cap, cur, t, fr, rfl, rfl, h1, h2, h3⟩, d, s'⟩ := Sats.pick hi s
  have hg := Sats.frame_left s' g _ (Frag.one_self g _)
  refine ⟨cellsOf_len xs, some ⟨g, 0, none⟩, cap, rfl, h1, h2, (fun h => by cases h), fun ad had j u hj => ?_⟩
  cases had
  rw [addr_add, cell_heap hg]
  rw [← h3, List.getElem?_take] at hj
  split at hj
  · simpa using hj
  · cases hj
theorem RowT.one {w : World} {F : Frag} {L : List Assn} {v : Value} {e : TypeId} {xs : List α} {i : Nat} (hi : L[i]? = some (RowT v e xs)) (s : Sats w L F) : v.oneCell' = true := by
  obtain ⟨_, ⟨_, b, rfl⟩ | ⟨g, c, cur, rfl, _⟩⟩ := row_heap hi s <;> rfl
theorem RdT.one {w : World} {F : Frag} {L : List Assn} {v : Value} {xs : List α} (hr : RdT L v xs) (s : Sats w L F) : v.oneCell' = true := by
  obtain ⟨_, a, c, rfl, _⟩ := hr w F s
  rfl
/-- The first elements of a row, with the row's room. -/
theorem Sub.rowTo {L : List Assn} {v : Value} {e : TypeId} {xs : List α} (i : Nat) (hi : L[i]? = some (RowT v e xs)) {h : Nat} (hk : h ≤ xs.length) {sz : Nat} (hsz : Rep.sz α = sz) : Sub (L.set i (RowT (subs v 0 h sz) e (xs.take h))) L := fun w F s => by
  subst hsz
  obtain ⟨f, ⟨hl, hc⟩, k⟩ := Sats.conv hi s
  refine k _ ⟨cellsOf_len _, ?_⟩
  have hlen : (xs.take h).length = h := by simp; omega
  rcases hc with ⟨h0, ⟨b, rfl⟩, rfl⟩ | ⟨g, cap, cur, rfl, rfl, h1, h2, h3, h4⟩
  · have : h = 0 := by omega
    subst this
    exact .inl ⟨by simp, ⟨b, by simp [subs]⟩, rfl⟩
  · refine .inr ⟨g, cap, cur, by simp only [subs, hlen]; split <;> simp [addr_add], rfl, by omega, h2, h3, ?_⟩
    rw [hlen, ← cellsOf_take, ← h4, List.take_take, Nat.min_eq_left (Nat.mul_le_mul_right _ hk)]
end
/-- Block g is these cells, none of them frozen. -/
def Raw (g : Nat) (t : TypeId) (cs : List Value) : Assn := fun h => h = Frag.one g (.cells cs.toArray t (0, 0))
theorem raw_store {w : World} {L : List Assn} {F : Frag} {i g o : Nat} {t : TypeId} {cs : List Value} (v : Value) (hi : L[i]? = some (Raw g t cs)) (s : Sats w L F) : Sats (w.setCell ⟨g, o, none⟩ v) (L.set i (Raw g t (cs.set o v))) F := by
  obtain ⟨h, rfl, d, s'⟩ := Sats.pick hi s
  have hg := Sats.frame_left s' g _ (Frag.one_self g _)
  refine Sats.rewrite (o' := .cells (cs.set o v).toArray t (0, 0)) (List.getElem?_eq_some_iff.1 hi).1 d s' rfl (fun k hk => ?_) ?_
  · rw [setCell_heap, if_neg hk]
  · rw [setCell_heap, if_pos rfl, hg]; simp
theorem run_storeCells_raw {P : Program} {i g : Nat} {bt : TypeId} {F : Frag} : ∀ (vs : List Value) (j o : Nat) (w : World) (L : List Assn) (cs : List Value), L[i]? = some (Raw g bt cs) → o + j + vs.length ≤ cs.length → (∀ v ∈ vs, v.oneCell' = true) → Sats w L F →
    ∃ w', (storeCells ⟨g, o, none⟩ vs j).run P w = .ok () w' ∧ Rest w w' ∧ Sats w' (L.set i (Raw g bt (cs.take (o + j) ++ vs ++ cs.drop (o + j + vs.length)))) F
  | [], j, o, w, L, cs, hi, hl, h1, s => by
    refine ⟨w, by simp [storeCells], Rest.refl w, ?_⟩
    have : cs.take (o + j) ++ [] ++ cs.drop (o + j + ([] : List Value).length) = cs := by
      simp only [List.append_nil, List.length_nil, Nat.add_zero, List.take_append_drop]
    rw [this, list_set_same hi]; exact s
  | v :: vs, j, o, w, L, cs, hi, hl, h1, s => by
    simp at hl
    have ho : o + j < cs.length := by omega
    have hg : w.heap[g]? = some (.cells cs.toArray bt (0, 0)) := by
      obtain ⟨h, rfl, d, s'⟩ := Sats.pick hi s
      exact Sats.frame_left s' g _ (Frag.one_self g _)
    have hcell : w.cell? ⟨g, o + j, none⟩ = some cs[o + j] := by rw [cell_heap hg]; simp [ho]
    have hf : w.frozen? ⟨g, o + j, none⟩ = false := by rw [frozen_heap hg]; simp
    have hs := raw_store (o := o + j) v hi s
    have hil : i < L.length := (List.getElem?_eq_some_iff.1 hi).1
    obtain ⟨w', hr, hre, hs'⟩ := run_storeCells_raw (P := P) (i := i) (g := g) (bt := bt) vs (j + 1) o (w.setCell ⟨g, o + j, none⟩ v) (L.set i (Raw g bt (cs.set (o + j) v))) (cs.set (o + j) v) (by simp [hil]) (by simp; omega) (fun u hu => h1 u (List.mem_cons_of_mem _ hu)) hs
    refine ⟨w', ?_, hre, ?_⟩
    · simp [storeCells, addr_add, run_store P w _ v _ (h1 v (List.mem_cons_self ..)), hcell, hf, hr]
    · rw [List.set_set] at hs'
      have e := splice_set cs (o + j) v vs (by omega)
      rw [show o + (j + 1) = o + j + 1 by omega, e] at hs'
      simpa using hs'
section
variable {α : Type} [Rep α]
/-- Cells of a row, written. -/
theorem row_write {P : Program} {w : World} {L : List Assn} {F : Frag} {v : Value} {e : TypeId} {xs xs' : List α} {i o : Nat} {us : List Value} (hi : L[i]? = some (RowT v e xs)) (ho : o + us.length ≤ xs.length * Rep.sz α) (hp : 0 < us.length) (h1 : us.all Value.oneCell' = true)
    (hx : (cellsOf xs).take o ++ us ++ (cellsOf xs).drop (o + us.length) = cellsOf xs') (hl : xs'.length = xs.length) (s : Sats w L F) :
    ∃ g w', (∃ c, v = .slice (some ⟨g, 0, none⟩) xs.length c) ∧ (storeCells ⟨g, o, none⟩ us 0).run P w = .ok () w' ∧ Rest w w' ∧ Sats w' (L.set i (RowT v e xs')) F := by
  obtain ⟨f, ⟨hl', hc⟩, k⟩ := Sats.conv hi s
  rcases hc with ⟨h0, _⟩ | ⟨g, cap, cur, rfl, rfl, hk, hm, hz, ht⟩
  · rw [h0] at ho; omega
  · have s1 := k (Raw g e cur.toList) (by simp [Raw])
    have hil : i < L.length := (List.getElem?_eq_some_iff.1 hi).1
    have hcl : xs.length * Rep.sz α ≤ cap * Rep.sz α := Nat.mul_le_mul_right _ hk
    obtain ⟨w', hr, hre, s2⟩ := run_storeCells_raw (P := P) (i := i) (g := g) (bt := e) us 0 o w _ cur.toList (by simp [hil]) (by simp; omega) (by simpa using h1) s1
    refine ⟨g, w', ⟨_, rfl⟩, hr, hre, ?_⟩
    rw [List.set_set] at s2
    obtain ⟨h', rfl, k2⟩ := Sats.conv (i := i) (A := Raw g e _) (by rw [List.getElem?_set_self (by simp [hil])]) s2
    have s3 := k2 (RowT (.slice (some ⟨g, 0, none⟩) xs.length cap) e xs') ⟨cellsOf_len _, .inr ⟨g, cap, _, by rw [hl], rfl, by rw [hl]; exact hk, hm, by simp; omega, by
      rw [hl, ← hx, ← ht]
      simp only [List.take_take, List.drop_take, Nat.add_zero, Nat.min_eq_left (show o ≤ xs.length * Rep.sz α by omega)]
      have hcz : o ≤ cur.size := by omega
      rw [List.take_append, List.take_of_length_le (by simp; omega)]
      congr 2
      simp [Nat.min_eq_left hcz]⟩⟩
    rw [List.set_set] at s3
    exact s3
/-- The zeros of clear. -/
theorem zeroCells_rep {zero : Array Value} {z : α} (hz : zero.toList = Rep.cells z) (m : Nat) : (Builtin.zeroCells zero m).toList = cellsOf (List.replicate m z) := by
  have hp : 0 < Rep.sz α := Rep.pos
  have hs : zero.size = Rep.sz α := by rw [← Array.length_toList, hz, Rep.len]
  refine List.ext_getElem? fun j => ?_
  by_cases hj : j < m * Rep.sz α
  · have hi : j / Rep.sz α < (List.replicate m z).length := by simp; exact Nat.div_lt_of_lt_mul (by rw [Nat.mul_comm]; exact hj)
    have ho : j % Rep.sz α < Rep.sz α := Nat.mod_lt _ hp
    have ej : j = j / Rep.sz α * Rep.sz α + j % Rep.sz α := by rw [Nat.mul_comm]; exact (Nat.div_add_mod _ _).symm
    have e1 := cellsOf_get (xs := List.replicate m z) hi ho
    rw [← ej] at e1
    rw [e1, List.getElem_replicate, ← hz]
    simp [Builtin.zeroCells, hs, hj, Array.getElem?_eq_getElem, ho]
  · rw [List.getElem?_eq_none (by simp [Builtin.zeroCells, hs]; omega), List.getElem?_eq_none (by rw [cellsOf_len]; simp; omega)]
end
section
variable {P : Program} {n : Nat} {ops : Array Oper} {Q : Post} {f : Nat → Value} {L : List Assn} {rest : List Oper} {d : Nat} {ty : TypeId} {pos : String} {af : Array Edge} {gd : Option (Nat × Bool)}
variable {α : Type} [Rep α] {v : Value} {xs ys : List α}
/-- clear(x[l:]). -/
theorem st_clear (i : Nat) {x : Operand} {t e : TypeId} {l k sz : Nat} {zs : List Value} (z : α) (hx : evalF f x = subs v l k sz) (hi : L[i]? = some (RowT v e xs)) (hk : k = xs.length) (hsz : Rep.sz α = sz) (ht : P.underlying t = some (.slice e)) (hz : zeroC P e = some zs) (hzs : Rep.cells z = zs) (hl : l ≤ xs.length)
    (h : ExL P n ops rest Q f (L.set i (RowT v e (xs.take l ++ List.replicate (xs.length - l) z)))) : ExL P n ops (⟨none, .call ⟨.builtin .clear, #[x], #[t]⟩, ty, pos, af, none⟩ :: rest) Q f L := by
  subst hsz; subst hk; subst hzs
  refine ExL.eff rfl rfl (R := fun _ L2 => L2 = L.set i (RowT v e (xs.take l ++ List.replicate (xs.length - l) z))) (fun F w s => ?_) (fun v L2 e => by subst e; exact h)
  obtain ⟨z', hr, hc⟩ := run_zeroValue w hz
  by_cases hlk : l = xs.length
  · subst hlk
    have : xs.take xs.length ++ List.replicate (xs.length - xs.length) z = xs := by simp
    rw [this, list_set_same hi]
    refine ⟨.tuple #[], w, _, .inl ?_, Rest.refl w, s, rfl⟩
    obtain ⟨_, a, c, rfl, _⟩ := (RdT.row i hi) w F s
    by_cases hcc : c = xs.length <;> cases a <;> simp [execOp, hx, resolve, invoke, builtin, Builtin.clear_, subs, run_underlying ht, hcc]
  · have hu : ((Builtin.zeroCells z'.cells (xs.length - l)).toList) = cellsOf (List.replicate (xs.length - l) z) := zeroCells_rep (by rw [hc]) _
    obtain ⟨g, w', ⟨c, rfl⟩, hrun, hre, hs⟩ := row_write (P := P) (w := w) (o := l * Rep.sz α) (us := cellsOf (List.replicate (xs.length - l) z)) (xs' := xs.take l ++ List.replicate (xs.length - l) z) hi (by rw [cellsOf_len, List.length_replicate, ← Nat.add_mul]; exact Nat.mul_le_mul_right _ (by omega)) (by rw [cellsOf_len, List.length_replicate]; exact Nat.mul_pos (by omega) Rep.pos) (by rw [List.all_eq_true]; exact cellsOf_all _) (by
      rw [cellsOf_len, List.length_replicate, ← Nat.add_mul, cellsOf_take, cellsOf_append]
      have : (cellsOf xs).drop ((l + (xs.length - l)) * Rep.sz α) = [] := List.drop_eq_nil_of_le (by rw [cellsOf_len]; exact Nat.mul_le_mul_right _ (by omega))
      rw [this, List.append_nil]) (by simp; omega) s
    refine ⟨.tuple #[], w', _, .inl ?_, hre, hs, rfl⟩
    obtain ⟨_, _, he, hc1, _⟩ := (RdT.row i hi).cap s
    cases he
    obtain ⟨m, hm⟩ : ∃ m, xs.length - l = m + 1 := ⟨xs.length - l - 1, by omega⟩
    rw [← hu, hm] at hrun
    simp [execOp, hx, resolve, invoke, builtin, Builtin.clear_, subs, run_underlying ht, show ¬ c = l by omega, hm, hr, addr_add, hrun]
/-- []byte(s). -/
theorem st_bytes {x : Operand} {src dst e : TypeId} {l : List UInt8} (hd : Nat.blt d n = true) (hx : evalF f x = .string (S l)) (hs : P.underlying src = some .string) (hu : P.underlying dst = some (.slice e)) (he : P.underlying e = some (.int .u8)) (hb : l.length ≤ 140737488355328)
    (h : ∀ v, v.oneCell' = true → ExL P n ops rest Q (upd f d v) (RoT v l :: L)) : ExL P n ops (⟨some d, .convert src dst x, ty, pos, af, none⟩ :: rest) Q f L := by
  refine ExL.eff rfl hd (R := fun v L2 => v.oneCell' = true ∧ L2 = RoT v l :: L) (fun F w s => ?_) (fun v L2 e => by obtain ⟨e1, rfl⟩ := e; exact h v e1)
  have hrun := Lib.run_convert_string_bytes (P := P) w src dst e (S l) hs hu he
  rw [S_size] at hrun
  refine ⟨.slice (some ⟨w.heap.size, 0, none⟩) l.length (grownCap w l.length 0 e), Lib.bytesWorld w e (S l), _, .inl (by simp [execOp, hx, hrun]), ⟨rfl, rfl, rfl⟩, ?_, rfl, rfl⟩
  have hge := grownCap_ge w l.length 0 e
  have hle : grownCap w l.length 0 e ≤ maxLen := grownCap_le_maxLen w l.length 0 e (by unfold maxLen; omega)
  have h1 := Sats.alloc (A := RoT (.slice (some ⟨w.heap.size, 0, none⟩) l.length (grownCap w l.length 0 e)) l) (.cells (Lib.bytesCells w e (S l)) e ((Lib.bytesCells w e (S l)).size, (Lib.bytesCells w e (S l)).size + 1)) s
    ⟨w.heap.size, _, _, _, _, rfl, rfl, hge, hle, by
      have : Rep.sz UInt8 = 1 := rfl
      rw [this, Nat.mul_one, cellsOf_bytes]
      simp [Lib.bytesCells, byteVals]⟩
  refine Sats.world (fun k o ho => ?_) h1
  rw [← ho]
  by_cases hk : k < w.heap.size
  · rw [Lib.bytesWorld_at_old w e (S l) k hk]
    simp [World.alloc, -World.alloc_eq, Array.getElem?_push, Nat.ne_of_lt hk]
  · by_cases hk2 : k = w.heap.size
    · subst hk2
      rw [Lib.bytesWorld_at_new]
      simp [World.alloc, -World.alloc_eq]
    · exfalso
      rw [Array.getElem?_eq_none (by simp [World.alloc, -World.alloc_eq]; omega)] at ho
      cases ho
/-- []byte(x) of a []byte. -/
theorem st_mark (i : Nat) {x : Operand} {t e : TypeId} {g k c : Nat} {l : List UInt8} (hd : Nat.blt d n = true) (hx : evalF f x = .slice (some ⟨g, 0, none⟩) k c) (hi : L[i]? = some (RowT (.slice (some ⟨g, 0, none⟩) k c) e l)) (hk : Nat.blt 0 k = true) (hu : P.underlying t = some (.slice e)) (he : P.underlying e = some (.int .u8))
    (h : ExL P n ops rest Q (upd f d (.slice (some ⟨g, 0, none⟩) k c)) (L.set i (RoT (.slice (some ⟨g, 0, none⟩) k c) l))) : ExL P n ops (⟨some d, .convert t t x, ty, pos, af, none⟩ :: rest) Q f L := by
  have hk := Nat.le_of_ble_eq_true hk
  refine ExL.eff rfl hd (R := fun v L2 => v = .slice (some ⟨g, 0, none⟩) k c ∧ L2 = L.set i (RoT (.slice (some ⟨g, 0, none⟩) k c) l)) (fun F w s => ?_) (fun v L2 e => by obtain ⟨rfl, rfl⟩ := e; exact h)
  obtain ⟨h', ⟨hl, hc⟩, d', s'⟩ := Sats.pick hi s
  rcases hc with ⟨h0, ⟨b, hb⟩, _⟩ | ⟨g2, cap, cur, hv, rfl, h1, h2, h3, h4⟩
  · cases hb; omega
  · cases hv
    have hg := Sats.frame_left s' g _ (Frag.one_self g _)
    refine ⟨.slice (some ⟨g, 0, none⟩) l.length c, w.freeze ⟨g, cur.size, none⟩ 1, _, .inl ?_, ⟨rfl, rfl, rfl⟩, ?_, rfl, rfl⟩
    · simp [execOp, hx, convert, run_underlying hu, run_underlying he, markStringish, World.shape?, hg]
    · refine Sats.rewrite (o' := .cells cur e (cur.size, cur.size + 1)) (List.getElem?_eq_some_iff.1 hi).1 d' s' ⟨g, c, cur, e, _, rfl, rfl, h1, h2, h4⟩ (fun k hk => ?_) ?_
      · simp [World.freeze, Array.getElem?_modify, Ne.symm hk]
      · simp [World.freeze, Array.getElem?_modify, hg]
/-- []T{..}: the cells of its elements. -/
def offE (sz : Nat) (i : Nat) : Option (Nat × Nat) := some (i * sz, sz)
def zerosE (zs : List Value) : Nat → List Value
  | 0 => []
  | m + 1 => zs ++ zerosE zs m
theorem zerosE_eq {zs : List Value} (hp : 0 < zs.length) : ∀ m, ((Array.range (m * zs.length)).map fun j => zs.toArray[j % zs.length]!).toList = zerosE zs m := by
  have key : ∀ m j, (zerosE zs m)[j]? = if j < m * zs.length then some (zs.toArray[j % zs.length]!) else none := by
    intro m
    induction m with
    | zero => intro j; simp [zerosE]
    | succ m ih =>
      intro j
      simp only [zerosE]
      by_cases hj : j < zs.length
      · rw [List.getElem?_append_left hj, if_pos (by rw [Nat.add_mul]; omega), Nat.mod_eq_of_lt hj]
        simp [hj]
      · rw [List.getElem?_append_right (by omega), ih, Nat.add_mul]
        by_cases h2 : j - zs.length < m * zs.length
        · rw [if_pos h2, if_pos (by omega), Nat.mod_eq_sub_mod (a := j) (by omega)]
        · rw [if_neg h2, if_neg (by omega)]
  intro m
  refine List.ext_getElem? fun j => ?_
  rw [key]
  by_cases hj : j < m * zs.length
  · rw [if_pos hj]; simp [hj]
  · rw [if_neg hj]; simp; omega
theorem run_buildSlice {w : World} {t e : TypeId} {sz m : Nat} {zs vs : List Value} {parts : List (Nat × Operand)} {ps : List (Nat × List Value)} (hu : P.underlying t = some (.slice e)) (hs : P.cellsOf e = sz) (hp : Nat.blt 0 sz = true) (hm : Nat.blt 0 m = true) (hmx : Nat.ble (m * sz) 16777216 = true) (hz : zeroC P e = some zs) (hzl : zs.length = sz)
    (he : Evs f parts ps) (hl : ((lay (offE sz) (zerosE zs m) ps).bind seqL) = some vs) : (Instr.buildSlice t m (parts.toArray.map fun (p : Nat × Operand) => (p.1, evalF f p.2))).run P w = .ok (.slice (some ⟨w.heap.size, 0, none⟩) m m) (w.alloc (.cells vs.toArray e)) := by
  have hp := Nat.le_of_ble_eq_true hp
  have hm := Nat.le_of_ble_eq_true hm
  have hmx := Nat.le_of_ble_eq_true hmx
  obtain ⟨z, hr, hc⟩ := run_zeroValue w hz
  have hl' : lay (offE sz) (zerosE zs m) ps = some vs := by
    cases h : lay (offE sz) (zerosE zs m) ps with
    | none => rw [h] at hl; cases hl
    | some z => rw [h] at hl; rw [← seqL_eq hl]
  subst hzl
  have hfill := fill_lay (offE zs.length) (parts.map fun p => (p.1, evalF f p.2)) ((Array.range (m * zs.length)).map fun j => zs.toArray[j % zs.length]!) vs (by rw [zerosE_eq (by omega), evs_map he]; exact hl')
  have hpl : (parts.toArray.map fun (p : Nat × Operand) => (p.1, evalF f p.2)).toList = parts.map fun p => (p.1, evalF f p.2) := by simp
  have hne : ¬ m * zs.length = 0 := by
    have : 0 < m * zs.length := Nat.mul_pos (by omega) (by omega)
    omega
  have hgt : ¬ m * zs.length > 2 ^ 24 := by omega
  have hfill' : Instr.fill (fun i => some (i * zs.length, zs.length)) ((Array.range (m * zs.length)).map fun j => zs.toArray[j % zs.length]!) (parts.map fun p => (p.1, evalF f p.2)) = some vs.toArray := hfill
  simp only [Instr.buildSlice, Sem.run_bind, run_underlying hu, Result.andThen_ok, run_sizeOf' w hs (by omega), if_neg hgt, if_neg hne, hr, Sem.run_pure, hc, hpl, List.size_toArray, hfill']
  simp [newRow]
/-- []T{..}, its elements xs. -/
theorem st_sliceN {t e : TypeId} {sz m : Nat} {zs vs : List Value} {parts : List (Nat × Operand)} {ps : List (Nat × List Value)} (xs : List α) (hd : Nat.blt d n = true) (hu : P.underlying t = some (.slice e)) (hs : P.cellsOf e = sz) (hp : Nat.blt 0 sz = true) (hm : Nat.blt 0 m = true) (hmx : Nat.ble (m * sz) 16777216 = true) (hz : zeroC P e = some zs) (hzl : zs.length = sz)
    (he : Evs f parts ps) (hl : ((lay (offE sz) (zerosE zs m) ps).bind seqL) = some vs) (hx : cellsOf xs = vs) (hxl : xs.length = m) (hsz : Rep.sz α = sz)
    (h : ∀ g, ExL P n ops rest Q (upd f d (.slice (some ⟨g, 0, none⟩) m m)) (RowT (.slice (some ⟨g, 0, none⟩) m m) e xs :: L)) : ExL P n ops (⟨some d, .buildSlice t m parts.toArray, ty, pos, af, none⟩ :: rest) Q f L := by
  subst hx; subst hxl; subst hsz
  refine ExL.eff rfl hd (R := fun v L2 => ∃ g, v = .slice (some ⟨g, 0, none⟩) xs.length xs.length ∧ L2 = RowT (.slice (some ⟨g, 0, none⟩) xs.length xs.length) e xs :: L) (fun F w s => ?_) (fun v L2 e => by obtain ⟨g, rfl, rfl⟩ := e; exact h g)
  have hrun := run_buildSlice (P := P) (w := w) hu hs hp hm hmx hz hzl he hl
  have hmx := Nat.le_of_ble_eq_true hmx
  have hp := Nat.le_of_ble_eq_true hp
  refine ⟨.slice (some ⟨w.heap.size, 0, none⟩) xs.length xs.length, w.alloc (.cells (cellsOf xs).toArray e), _, .inl (by simp only [execOp, Sem.run_bind, hrun, Result.andThen_ok, Sem.run_pure]), Rest.alloc (Rest.refl w) _, Sats.alloc _ s ?_, w.heap.size, rfl, rfl⟩
  refine ⟨cellsOf_len _, .inr ⟨w.heap.size, _, _, rfl, rfl, Nat.le_refl _, ?_, by simp [cellsOf_len], by rw [← cellsOf_len]; simp⟩⟩
  have : xs.length * 1 ≤ xs.length * Rep.sz α := Nat.mul_le_mul_left _ (by omega)
  unfold maxLen
  omega
/-- Bytes, of cells. -/
def bytesL : List Value → Option (List UInt8)
  | [] => some []
  | .int .u8 (.ofNat m) :: l => match Nat.blt m 256, bytesL l with
    | true, some r => some (UInt8.ofNat m :: r)
    | _, _ => none
  | _ => none
theorem bytesL_eq : ∀ {l : List Value} {r : List UInt8}, bytesL l = some r → cellsOf r = l
  | [], r, h => by cases h; rfl
  | .int .u8 (.ofNat m) :: l, r, h => by
    simp only [bytesL] at h
    split at h
    · rename_i r' hb hl
      cases h
      have hb := Nat.le_of_ble_eq_true hb
      have e1 := bytesL_eq hl
      show [Value.int .u8 ((UInt8.ofNat m).toNat : Int)] ++ cellsOf r' = _
      rw [e1]
      have : (UInt8.ofNat m).toNat = m := by simp; omega
      rw [this]; rfl
    · cases h
  | .int .u8 (.negSucc m) :: l, r, h => by simp [bytesL] at h
/-- []byte{..} of constants. -/
theorem st_sliceB {t e : TypeId} {m : Nat} {zs vs : List Value} {parts : List (Nat × Operand)} {ps : List (Nat × List Value)} {xs : List UInt8} (hd : Nat.blt d n = true) (hu : P.underlying t = some (.slice e)) (hs : P.cellsOf e = 1) (hm : Nat.blt 0 m = true) (hmx : Nat.ble (m * 1) 16777216 = true) (hz : zeroC P e = some zs) (hzl : zs.length = 1)
    (he : Evs f parts ps) (hl : ((lay (offE 1) (zerosE zs m) ps).bind seqL) = some vs) (hx : bytesL vs = some xs) (hxl : xs.length = m)
    (h : ∀ g, ExL P n ops rest Q (upd f d (.slice (some ⟨g, 0, none⟩) m m)) (RowT (.slice (some ⟨g, 0, none⟩) m m) e xs :: L)) : ExL P n ops (⟨some d, .buildSlice t m parts.toArray, ty, pos, af, none⟩ :: rest) Q f L :=
  st_sliceN xs hd hu hs rfl hm hmx hz hzl he hl (bytesL_eq hx) hxl rfl h
/-- append, with the one fact of its result. -/
theorem st_app (i : Nat) {x y : Operand} {u : Value} {t e : TypeId} {sz by_ : Nat} {zs : List Value} (hd : Nat.blt d n = true) (hx : evalF f x = v) (hi : L[i]? = some (RowT v e xs)) (hy : evalF f y = u) (hr : RdT L u ys) (ht : P.underlying t = some (.slice e))
    (hs : P.cellsOf e = sz) (hsz : Rep.sz α = sz) (hby : P.bytesOf e = by_) (hbp : Nat.blt 0 by_ = true) (hz : zeroC P e = some zs) (hzl : zs.length = sz) (hb : (xs.length + ys.length) * by_ ≤ 140737488355328)
    (h : ∀ v', v'.oneCell' = true → ExL P n ops rest Q (upd f d v') (L.set i (RowT v' e (xs ++ ys)))) : ExL P n ops (⟨some d, .call ⟨.builtin .append, #[x, y], #[t, t]⟩, ty, pos, af, none⟩ :: rest) Q f L := by
  refine ExL.eff rfl hd (R := fun v' L' => v'.oneCell' = true ∧ L' = L.set i (RowT v' e (xs ++ ys))) (fun F w s => ?_) (fun v' L' e => by obtain ⟨o, rfl⟩ := e; exact h v' o)
  obtain ⟨v', w', hrun, hre, hsat⟩ := row_append (P := P) (ty := ty) hi hr ht hs hsz hby (Nat.le_of_ble_eq_true hbp) hz hzl hb s
  exact ⟨v', w', _, .inl (by simp [execOp, resolve, invoke, builtin, hx, hy, hrun]), hre, hsat, RowT.one (by rw [List.getElem?_set_self (List.getElem?_eq_some_iff.1 hi).1]) hsat, rfl⟩
theorem st_app0 {x y : Operand} {u : Value} {b : Option Addr} {t e : TypeId} {sz by_ : Nat} {zs : List Value} (hd : Nat.blt d n = true) (hx : evalF f x = .slice b 0 0) (hy : evalF f y = u) (hr : RdT L u ys) (ht : P.underlying t = some (.slice e))
    (hs : P.cellsOf e = sz) (hsz : Rep.sz α = sz) (hby : P.bytesOf e = by_) (hbp : Nat.blt 0 by_ = true) (hz : zeroC P e = some zs) (hzl : zs.length = sz) (hb : ys.length * by_ ≤ 140737488355328)
    (h : ∀ v', v'.oneCell' = true → ExL P n ops rest Q (upd f d v') (RowT v' e ys :: L)) : ExL P n ops (⟨some d, .call ⟨.builtin .append, #[x, y], #[t, t]⟩, ty, pos, af, none⟩ :: rest) Q f L := by
  refine ExL.eff rfl hd (R := fun v' L' => v'.oneCell' = true ∧ L' = RowT v' e ys :: L) (fun F w s => ?_) (fun v' L' e => by obtain ⟨o, rfl⟩ := e; exact h v' o)
  have s' : Sats w (RowT (.slice b 0 0) e ([] : List α) :: L) F := Sats.add_empty s (rowT_nil b e)
  obtain ⟨v', w', hrun, hre, hsat⟩ := row_append (P := P) (ty := ty) (i := 0) (L := RowT (.slice b 0 0) e ([] : List α) :: L) (xs := []) rfl (RdT.sub hr (Sub.drop _ (Sub.refl L))) ht hs hsz hby (Nat.le_of_ble_eq_true hbp) hz hzl (by simpa using hb) s'
  exact ⟨v', w', _, .inl (by simp [execOp, resolve, invoke, builtin, hx, hy, hrun]), hre, by simpa using hsat, RowT.one (i := 0) rfl hsat, rfl⟩
end
theorem exlConv {P : Program} {n : Nat} {ops : Array Oper} {Q : Post} {f : Nat → Value} {L : List Assn} {rest : List Oper} {dd : Option Nat} {ty : TypeId} {pos : String} {af : Array Edge} {gd : Option (Nat × Bool)} {t u : TypeId} {x : Operand} (h : ExL P n ops (⟨dd, .convert t u x, ty, pos, af, gd⟩ :: rest) Q f L) : ExL P n ops (⟨dd, .convert t u x, ty, pos, af, gd⟩ :: rest) Q f L := h
theorem RdT.ca {α : Type} [Rep α] {L : List Assn} {v : Value} {xs : List α} (hr : RdT L v xs) (w : World) (F : Frag) (s : Sats w L F) : ∃ a c, v = .slice a xs.length c ∧ (a = none → c = 0 ∧ xs.length = 0) := by
  obtain ⟨_, a, c, rfl, h1, h2, h3, _⟩ := hr w F s
  exact ⟨a, c, rfl, fun h => ⟨h3 h, by have := h3 h; omega⟩⟩
section
variable {P : Program} {f : Nat → Value} {L : List Assn} {d : Nat} {ty : TypeId} {pos : String} {af : Array Edge} {gd : Option (Nat × Bool)} {xt yt e : TypeId} {x y : Operand} {a : Option Addr} {k c k' c' : Nat}
theorem run_nilS {w : World} (hu : P.underlying xt = some (.slice e)) : (Op.equal xt (.slice a k c) (.slice none k' c')).run P w = .ok a.isNone w := by
  show (Op.equalIn (9999 + 1) xt (.slice a k c) (.slice none k' c')).run P w = _
  rw [Op.equalIn]
  cases a <;> simp [run_underlying hu]
theorem vl_nilS {b : Bool} (hx : evalF f x = .slice a k c) (hy : evalF f y = .slice none k' c') (hu : P.underlying xt = some (.slice e)) (hb : a.isNone = b) : Val P ⟨some d, .binOp .eql xt x y yt, ty, pos, af, gd⟩ f L (.bool b) :=
  vl_eqv hx hy (fun w => by simp [eqGuard]) (fun w => by
    simp only [binOp, Sem.run_bind, run_nilS hu, Result.andThen_ok, Sem.run_pure, hb])
theorem vl_nnilS {b : Bool} (hx : evalF f x = .slice a k c) (hy : evalF f y = .slice none k' c') (hu : P.underlying xt = some (.slice e)) (hb : (!a.isNone) = b) : Val P ⟨some d, .binOp .neq xt x y yt, ty, pos, af, gd⟩ f L (.bool b) :=
  vl_eqv hx hy (fun w => by simp [eqGuard]) (fun w => by
    simp only [binOp, Sem.run_bind, run_nilS hu, Result.andThen_ok, Sem.run_pure, hb])
end
theorem subs_one {v : Value} {l h sz : Nat} (hv : v.oneCell' = true) : (subs v l h sz).oneCell' = true := by
  unfold subs
  split
  · rfl
  · first | exact hv | rfl
/-- A slice of bytes that stands in a slice: its header and its bytes. -/
structure Bv where
  v : Value
  one : v.oneCell' = true
  l : List UInt8
instance : Rep Bv := ⟨1, fun b => [b.v], by decide, fun _ => rfl, fun b => by simp [b.one]⟩
theorem decide_nb (b : Bool) : decide ((!b) = b) = false := by cases b <;> rfl
theorem decide_bn (b : Bool) : decide (b = !b) = false := by cases b <;> rfl
/-- L with some of its parts brought to the front. -/
def pull : Nat → List Assn → Option (Assn × List Assn)
  | 0, A :: L => some (A, L)
  | i + 1, A :: L => match pull i L with
    | some (B, L') => some (B, A :: L')
    | none => none
  | _, [] => none
def fronts : List Nat → List Assn → List Assn
  | [], L => L
  | i :: is, L => match pull i (fronts is L) with
    | some (B, L') => B :: L'
    | none => fronts is L
theorem pull_sub : ∀ (i : Nat) {L L' : List Assn} {B : Assn}, pull i L = some (B, L') → Sub (B :: L') L
  | 0, A :: L, _, _, h => by cases h; exact Sub.refl _
  | i + 1, A :: L, L', B, h => by
    simp only [pull] at h
    split at h
    · rename_i B2 L2 he
      cases h
      exact Sub.trans (Sub.front (L := A :: B :: L2) 1 rfl) (Sub.cons A (pull_sub i he))
    · cases h
theorem fronts_sub : ∀ (is : List Nat) (L : List Assn), Sub (fronts is L) L
  | [], L => Sub.refl L
  | i :: is, L => by
    have h := fronts_sub is L
    simp only [fronts]
    split
    · rename_i he
      exact Sub.trans (pull_sub i he) h
    · exact h
/-- A call with some parts brought to the front. -/
theorem st_callIs (is : List Nat) {P : Program} {n : Nat} {ops : Array Oper} {Q : Post} {f : Nat → Value} {L L1 : List Assn} {rest : List Oper} {d : Option Nat} {ty : TypeId} {pos : String} {af : Array Edge} {fn : FuncId} {xs : List Operand} {vs : List Value} {ts : Array TypeId} {R : Value → List Assn → Prop}
    (hd : dstOk n d = true) (hrun : ∀ (xs : Array Value) (w : World), (callFunc fn xs).run P w = .ok (.enter fn xs) w) (hl : fronts is L = L1) (ha : xs.map (evalF f) = vs) (hf : Fn P fn vs.toArray L1 R) (h : ∀ v L', R v L' → ExL P n ops rest Q (updo f d v) L') :
    ExL P n ops (⟨d, .call ⟨.value (.func fn), xs.toArray, ts⟩, ty, pos, af, none⟩ :: rest) Q f L :=
  st_call hd hrun (hf.sub (by subst hl; exact fronts_sub is L)) ha h
/-- As kdOf, and some operations that but read are told as acting ones: they may read what an acting one has made. -/
def kdK (is : List Nat) (ops : Array Oper) (i : Nat) : Nat := match is.any (Nat.beq i) with
  | true => 2
  | false => kdOf ops i
theorem Ex.mixK {P : Program} {n : Nat} {ops : Array Oper} {Q : Post} {f : Nat → Value} {L : List Assn} {id : Nat} (m : Nat) (is : List Nat) (Lb : List Assn) (hm : P.follows .mixedOrders = true) (hok : mixOk n ops (kdK is ops) m = true) (hf : Fac Lb L)
    (h : Mix P n ops (kdK is ops) Lb (fun f L => ExL P n ops (ops.toList.drop m) Q f L) (idx 0 (ops.toList.take m)) f L) : Ex P n (.region id ops true) Q f L :=
  Ex.mix m _ Lb hm hok hf h
theorem Ex.reord (is : List Nat) {P : Program} {n : Nat} {c : Code} {Q : Post} {f : Nat → Value} {L L1 : List Assn} (hl : fronts is L = L1) (h : Ex P n c Q f L1) : Ex P n c Q f L := Ex.sub h (by subst hl; exact fronts_sub is L)
/-- What is known of L as a world has it. -/
theorem ExL.know {P : Program} {n : Nat} {ops : Array Oper} {Q : Post} {f : Nat → Value} {L : List Assn} {l : List Oper} {p : Prop} (hk : ∀ w F, Sats w L F → p) (h : p → ExL P n ops l Q f L) : ExL P n ops l Q f L := fun D F w0 f0 ws a w H hc => h (hk w F H.2.2.1) D F w0 f0 ws a w H hc
theorem Ex.know {P : Program} {n : Nat} {c : Code} {Q : Post} {f : Nat → Value} {L : List Assn} {p : Prop} (hk : ∀ w F, Sats w L F → p) (h : p → Ex P n c Q f L) : Ex P n c Q f L := fun D F w0 f0 ws a w H hc => h (hk w F H.2.2.1) D F w0 f0 ws a w H hc
theorem ExL.sub {P : Program} {n : Nat} {ops : Array Oper} {Q : Post} {f : Nat → Value} {L L' : List Assn} {l : List Oper} (h : ExL P n ops l Q f L') (hs : Sub L' L) : ExL P n ops l Q f L := fun D F w0 f0 ws a w ⟨r, ag, s, k⟩ hc => h D F w0 f0 ws a w ⟨r, ag, hs w F s, k⟩ hc
end Go.Proofs.Ytcclbplccnaonaa
/- Equality of structs and arrays, cell by cell. No condition. -/
namespace Go.Proofs.Ytcclbplccnaonaa
open Go.RowKit
set_option linter.unusedSimpArgs false
set_option linter.unusedVariables false
/-- A cell's kind. -/
inductive Leaf where
  | b
  | i (k : IntKind)
  | s
def Leaf.ok : Leaf → Value → Bool
  | .b, .bool _ => true
  | .i k, .int k' _ => decide (k = k')
  | .s, .string _ => true
  | _, _ => false
def okL : List Leaf → List Value → Bool
  | [], [] => true
  | l :: ls, v :: vs => l.ok v && okL ls vs
  | _, _ => false
def leavesF (g : TypeId → Option (List Leaf)) : List Field → Nat → Option (List Leaf)
  | [], _ => some []
  | f :: fs, o => if f.offset = o ∧ f.name ≠ "_" then (g f.type).bind fun l => (leavesF g fs (o + l.length)).map (l ++ ·) else none
/-- The kinds of a type's cells, where it is compared cell by cell. -/
def leaves (P : Program) : Nat → TypeId → Option (List Leaf)
  | 0, _ => none
  | d + 1, t => ((match P.underlying t with
    | some .bool => some [.b]
    | some (.int k) => some [.i k]
    | some .string => some [.s]
    | some (.struct fs) => if P.stoodInHeld t = true then none else leavesF (leaves P d) fs.toList 0
    | some (.array n e) => (leaves P d e).map fun l => (List.replicate n l).flatten
    | _ => none) : Option (List Leaf)).bind fun l => if l.length = P.cellsOf t ∧ 0 < l.length then some l else none
theorem okL_len : ∀ {ls : List Leaf} {vs : List Value}, okL ls vs = true → vs.length = ls.length
  | [], [], _ => rfl
  | _ :: _, _ :: _, h => by simp [okL] at h; simp [okL_len h.2]
  | [], _ :: _, h => by simp [okL] at h
  | _ :: _, [], h => by simp [okL] at h
theorem okL_split : ∀ {a b : List Leaf} {vs : List Value}, okL (a ++ b) vs = true → okL a (vs.take a.length) = true ∧ okL b (vs.drop a.length) = true
  | [], b, vs, h => by simpa [okL] using h
  | l :: a, b, v :: vs, h => by
    simp [okL] at h
    obtain ⟨h1, h2⟩ := okL_split h.2
    simp [okL, h.1, h1, h2]
  | _ :: _, _, [], h => by simp [okL] at h
section
variable {P : Program}
theorem leaves_spec {d : Nat} {t : TypeId} {l : List Leaf} (h : leaves P d t = some l) : l.length = P.cellsOf t ∧ 0 < l.length ∧ (aggB P t = some true ∨ (aggB P t = some false ∧ l.length = 1)) := by
  cases d with
  | zero => simp [leaves] at h
  | succ d =>
    simp only [leaves, Option.bind_eq_some_iff] at h
    obtain ⟨l', h1, h2⟩ := h
    split at h2
    · cases h2
      rename_i hl
      refine ⟨hl.1, hl.2, ?_⟩
      unfold aggB
      cases hu : P.underlying t with
      | none => rw [hu] at h1; cases h1
      | some k => rw [hu] at h1; cases k <;> simp at h1 ⊢ <;> subst h1 <;> rfl
    · cases h2
/-- The value of a type whose cells these are. -/
def FormV (P : Program) (e : TypeId) (a : Value) (cs : List Value) : Prop := (aggB P e = some true ∧ a = .agg cs.toArray) ∨ (aggB P e = some false ∧ cs = [a])
theorem run_part' {d : Nat} {e : TypeId} {l : List Leaf} (hl : leaves P d e = some l) {xs : Array Value} {off : Nat} (ho : okL l ((xs.toList.drop off).take l.length) = true) (w : World) : ∃ a, (part e xs off).run P w = .ok a w ∧ FormV P e a ((xs.toList.drop off).take l.length) := by
  obtain ⟨h1, h2, h3⟩ := leaves_spec hl
  have hlen := okL_len ho
  rcases h3 with hA | ⟨hA, hone⟩
  · refine ⟨.agg (xs.extract off (off + l.length)), ?_, .inl ⟨hA, ?_⟩⟩
    · simp [part, run_isAgg w hA, run_sizeOf' w h1.symm h2]
    · congr 1
      apply Array.ext'
      rw [Array.toList_extract]
      simp [List.extract]
  · rw [hone] at hlen ⊢
    obtain ⟨v, hv⟩ : ∃ v, (xs.toList.drop off).take 1 = [v] := by
      match hx : (xs.toList.drop off).take 1, hlen with
      | [v], _ => exact ⟨v, rfl⟩
    have hg : xs[off]? = some v := by
      have := congrArg (fun l : List Value => l[0]?) hv
      simp only [List.getElem?_take, List.getElem?_drop] at this
      simpa using this
    exact ⟨v, by simp [part, run_isAgg w hA, hg], .inr ⟨hA, hv⟩⟩
def EqL (P : Program) (dd : Nat) (e : TypeId) (l : List Leaf) : Prop := ∀ (w : World) (a b : Value) (xs ys : List Value), FormV P e a xs → FormV P e b ys → okL l xs = true → okL l ys = true → ∃ r : Bool, (Op.equalIn dd e a b).run P w = .ok r w ∧ (r = true ↔ xs = ys)
theorem split_eq {xs ys : List Value} {m : Nat} : xs = ys ↔ xs.take m = ys.take m ∧ xs.drop m = ys.drop m :=
  ⟨fun h => by rw [h]; exact ⟨rfl, rfl⟩, fun ⟨h1, h2⟩ => by rw [← List.take_append_drop m xs, h1, h2, List.take_append_drop]⟩
theorem run_eqFields' {d dd : Nat} (IH : ∀ t l, leaves P d t = some l → EqL P dd t l) (X Y : Array Value) (w : World) : ∀ (fs : List Field) (o : Nat) (l : List Leaf), leavesF (leaves P d) fs o = some l → okL l (X.toList.drop o) = true → okL l (Y.toList.drop o) = true →
    ∃ r : Bool, (Op.eqFields dd X Y fs).run P w = .ok r w ∧ (r = true ↔ X.toList.drop o = Y.toList.drop o)
  | [], o, l, h, h1, h2 => by
    simp [leavesF] at h
    subst h
    have e1 := List.eq_nil_of_length_eq_zero (okL_len h1)
    have e2 := List.eq_nil_of_length_eq_zero (okL_len h2)
    exact ⟨true, by simp [Op.eqFields], by rw [e1, e2]; simp⟩
  | f :: fs, o, l, h, h1, h2 => by
    simp only [leavesF] at h
    split at h
    · rename_i hf
      obtain ⟨ho, hn⟩ := hf
      simp only [Option.bind_eq_some_iff, Option.map_eq_some_iff] at h
      obtain ⟨lf, hlf, l', hl', rfl⟩ := h
      obtain ⟨a1, a2⟩ := okL_split h1
      obtain ⟨b1, b2⟩ := okL_split h2
      obtain ⟨a, p1, f1⟩ := run_part' hlf (xs := X) (off := o) a1 w
      obtain ⟨b, p2, f2⟩ := run_part' hlf (xs := Y) (off := o) b1 w
      obtain ⟨r, hr, hiff⟩ := IH _ _ hlf w a b _ _ f1 f2 a1 b1
      rw [List.drop_drop] at a2 b2
      obtain ⟨r', hr', hiff'⟩ := run_eqFields' IH X Y w fs _ l' hl' a2 b2
      rw [← ho] at p1 p2
      have hs : (X.toList.drop o = Y.toList.drop o) ↔ (r = true ∧ r' = true) := by
        rw [split_eq (m := lf.length), hiff, hiff', List.drop_drop, List.drop_drop]
      cases r
      · exact ⟨false, by simp only [Op.eqFields, hn, ne_eq, not_false_eq_true, if_true, Sem.run_bind, p1, p2, hr, Result.andThen_ok, Bool.not_false, Sem.run_pure], by rw [hs]; simp⟩
      · exact ⟨r', by simpa only [Op.eqFields, hn, ne_eq, not_false_eq_true, if_true, Sem.run_bind, p1, p2, hr, Result.andThen_ok, Bool.not_true, Bool.false_eq_true, if_false] using hr', by rw [hs]; simp⟩
    · cases h
theorem run_eqItems' {d dd : Nat} {e : TypeId} {le : List Leaf} (hle : leaves P d e = some le) (IH : EqL P dd e le) (X Y : Array Value) (w : World) : ∀ (m k : Nat), okL (List.replicate m le).flatten (X.toList.drop (k * le.length)) = true → okL (List.replicate m le).flatten (Y.toList.drop (k * le.length)) = true →
    ∃ r : Bool, (Op.eqItems dd e (P.cellsOf e) X Y (List.range' k m)).run P w = .ok r w ∧ (r = true ↔ X.toList.drop (k * le.length) = Y.toList.drop (k * le.length))
  | 0, k, h1, h2 => by
    have e1 := List.eq_nil_of_length_eq_zero (okL_len h1)
    have e2 := List.eq_nil_of_length_eq_zero (okL_len h2)
    exact ⟨true, by simp [Op.eqItems], by rw [e1, e2]; simp⟩
  | m + 1, k, h1, h2 => by
    rw [List.replicate_succ, List.flatten_cons] at h1 h2
    obtain ⟨a1, a2⟩ := okL_split h1
    obtain ⟨b1, b2⟩ := okL_split h2
    obtain ⟨a, p1, f1⟩ := run_part' hle (xs := X) (off := k * le.length) a1 w
    obtain ⟨b, p2, f2⟩ := run_part' hle (xs := Y) (off := k * le.length) b1 w
    obtain ⟨r, hr, hiff⟩ := IH w a b _ _ f1 f2 a1 b1
    have hk : k * le.length + le.length = (k + 1) * le.length := by rw [Nat.add_mul]; omega
    rw [List.drop_drop, hk] at a2 b2
    obtain ⟨r', hr', hiff'⟩ := run_eqItems' hle IH X Y w m (k + 1) a2 b2
    rw [(leaves_spec hle).1] at p1 p2
    have hs : (X.toList.drop (k * le.length) = Y.toList.drop (k * le.length)) ↔ (r = true ∧ r' = true) := by
      rw [split_eq (m := le.length), hiff, hiff', List.drop_drop, List.drop_drop, hk]
    rw [List.range'_succ]
    cases r
    · exact ⟨false, by simp only [Op.eqItems, Sem.run_bind, p1, p2, hr, Result.andThen_ok, Bool.not_false, if_true, Sem.run_pure], by rw [hs]; simp⟩
    · exact ⟨r', by simpa only [Op.eqItems, Sem.run_bind, p1, p2, hr, Result.andThen_ok, Bool.not_true, Bool.false_eq_true, if_false] using hr', by rw [hs]; simp⟩
theorem run_equalIn' (j : Nat) : ∀ (d : Nat) (t : TypeId) (l : List Leaf), leaves P d t = some l → EqL P (j + d) t l
  | 0, _, _, h => by simp [leaves] at h
  | d + 1, t, l, h => by
    intro w a b xs ys fa fb oa ob
    have h0 := h
    simp only [leaves, Option.bind_eq_some_iff] at h
    obtain ⟨l', h1, h2⟩ := h
    split at h2
    case isFalse => cases h2
    cases h2
    have agg : ∀ v cs, FormV P t v cs → aggB P t = some true → v = .agg cs.toArray := fun v cs hv ht => by
      rcases hv with ⟨_, h⟩ | ⟨h, _⟩
      · exact h
      · rw [ht] at h; cases h
    have one : ∀ v cs, FormV P t v cs → aggB P t = some false → cs = [v] := fun v cs hv ht => by
      rcases hv with ⟨h, _⟩ | ⟨_, h⟩
      · rw [ht] at h; cases h
      · exact h
    cases hu : P.underlying t with
    | none => rw [hu] at h1; cases h1
    | some k =>
      rw [hu] at h1
      cases k <;> simp only [reduceCtorEq, Option.some.injEq] at h1
      case bool =>
        subst h1
        obtain rfl := one a xs fa (by simp [aggB, hu])
        obtain rfl := one b ys fb (by simp [aggB, hu])
        cases a <;> simp [okL, Leaf.ok] at oa
        cases b <;> simp [okL, Leaf.ok] at ob
        exact ⟨_, run_equalIn_bool' w (j + d) t _ _ hu, by simp⟩
      case int q =>
        subst h1
        obtain rfl := one a xs fa (by simp [aggB, hu])
        obtain rfl := one b ys fb (by simp [aggB, hu])
        cases a <;> simp [okL, Leaf.ok] at oa
        cases b <;> simp [okL, Leaf.ok] at ob
        subst oa; subst ob
        exact ⟨_, run_equalIn_int w (j + d) t _ _ _ _ hu, by simp⟩
      case string =>
        subst h1
        obtain rfl := one a xs fa (by simp [aggB, hu])
        obtain rfl := one b ys fb (by simp [aggB, hu])
        cases a <;> simp [okL, Leaf.ok] at oa
        cases b <;> simp [okL, Leaf.ok] at ob
        exact ⟨_, run_equalIn_string w (j + d) t _ _ hu, by simp [ByteArray.toList_eq, ByteArray.ext_iff]⟩
      case struct fs =>
        split at h1
        · cases h1
        · rename_i hst
          have hA : aggB P t = some true := by simp [aggB, hu]
          obtain rfl := agg a xs fa hA
          obtain rfl := agg b ys fb hA
          have hfs : P.fieldsOf t = fs := by simp [Program.fieldsOf, hu]
          obtain ⟨r, hr, hiff⟩ := run_eqFields' (fun t l h => run_equalIn' j d t l h) xs.toArray ys.toArray w fs.toList 0 l h1 (by simpa using oa) (by simpa using ob)
          refine ⟨r, ?_, by simpa using hiff⟩
          rw [show j + (d + 1) = (j + d) + 1 from rfl, run_equalIn_struct w (j + d) t _ _ (by rw [hfs]; exact hu) (by simpa using hst), hfs]
          exact hr
      case array n e =>
        simp only [Option.map_eq_some_iff] at h1
        obtain ⟨le, hle, rfl⟩ := h1
        have hA : aggB P t = some true := by simp [aggB, hu]
        obtain rfl := agg a xs fa hA
        obtain rfl := agg b ys fb hA
        have hpe : ∃ i, P.info? e = some i := by
          have := (leaves_spec hle).1
          have hp := (leaves_spec hle).2.1
          rw [this] at hp
          unfold Program.cellsOf at hp
          cases hi : P.info? e with
          | none => rw [hi] at hp; simp at hp
          | some i => exact ⟨i, rfl⟩
        obtain ⟨i, hi⟩ := hpe
        obtain ⟨r, hr, hiff⟩ := run_eqItems' hle (run_equalIn' j d e le hle) xs.toArray ys.toArray w n 0 (by simpa using oa) (by simpa using ob)
        refine ⟨r, ?_, by simpa using hiff⟩
        rw [show j + (d + 1) = (j + d) + 1 from rfl, run_equalIn_array w (j + d) _ _ hu hi, List.range_eq_range']
        exact hr
/-- Things that are compared as the cells that they lie in. -/
class EqT (P : outParam Program) (t : TypeId) (α : outParam Type) [Rep α] where
  depth : Nat
  ls : List Leaf
  small : Nat.ble depth 10000 = true
  leaves : leaves P depth t = some ls
  agg : aggB P t = some true
  guard : P.eqGuardType P.depth t = false
  ok : ∀ a : α, okL ls (Rep.cells a) = true
  inj : ∀ a b : α, Rep.cells a = Rep.cells b → a = b
section
variable {α : Type} [Rep α] {t : TypeId} [E : EqT P t α]
theorem run_eqT [DecidableEq α] (a b : α) (w : World) : (Op.equal t (.agg (Rep.cells a).toArray) (.agg (Rep.cells b).toArray)).run P w = .ok (decide (a = b)) w := by
  have hs := Nat.le_of_ble_eq_true E.small
  obtain ⟨r, hr, hiff⟩ := run_equalIn' (P := P) (10000 - E.depth) E.depth t E.ls E.leaves w _ _ _ _ (.inl ⟨E.agg, rfl⟩) (.inl ⟨E.agg, rfl⟩) (E.ok a) (E.ok b)
  rw [show 10000 - E.depth + E.depth = 10000 by omega] at hr
  show (Op.equalIn 10000 t _ _).run P w = _
  rw [hr]
  congr 1
  by_cases h : a = b
  · subst h; simpa using hiff
  · rw [decide_eq_false h]
    cases r
    · rfl
    · exact absurd (E.inj _ _ (hiff.1 rfl)) h
variable {f : Nat → Value} {L : List Assn} {d : Nat} {ty : TypeId} {pos : String} {af : Array Edge} {gd : Option (Nat × Bool)} {yt : TypeId} {x y : Operand} [DecidableEq α]
theorem vl_eqlT {a b : α} (hx : evalF f x = .agg (Rep.cells a).toArray) (hy : evalF f y = .agg (Rep.cells b).toArray) : Val P ⟨some d, .binOp .eql t x y yt, ty, pos, af, gd⟩ f L (.bool (decide (a = b))) :=
  vl_eqv hx hy (fun w => run_eqGuard_agg w .eql t x y _ _ E.guard) (fun w => by
    simp only [binOp, Sem.run_bind, run_eqT a b w, Result.andThen_ok, Sem.run_pure])
theorem vl_neqT {a b : α} (hx : evalF f x = .agg (Rep.cells a).toArray) (hy : evalF f y = .agg (Rep.cells b).toArray) : Val P ⟨some d, .binOp .neq t x y yt, ty, pos, af, gd⟩ f L (.bool (decide (a ≠ b))) :=
  vl_eqv hx hy (fun w => run_eqGuard_agg w .neq t x y _ _ E.guard) (fun w => by
    simp only [binOp, Sem.run_bind, run_eqT a b w, Result.andThen_ok, Sem.run_pure]
    congr 2
    simp)
theorem vl_eqlT_t {a b : α} (hx : evalF f x = .agg (Rep.cells a).toArray) (hy : evalF f y = .agg (Rep.cells b).toArray) (h : a = b) : Val P ⟨some d, .binOp .eql t x y yt, ty, pos, af, gd⟩ f L (.bool true) := by
  rw [← decide_eq_true h]; exact vl_eqlT hx hy
theorem vl_eqlT_f {a b : α} (hx : evalF f x = .agg (Rep.cells a).toArray) (hy : evalF f y = .agg (Rep.cells b).toArray) (h : a ≠ b) : Val P ⟨some d, .binOp .eql t x y yt, ty, pos, af, gd⟩ f L (.bool false) := by
  rw [← decide_eq_false h]; exact vl_eqlT hx hy
theorem vl_neqT_t {a b : α} (hx : evalF f x = .agg (Rep.cells a).toArray) (hy : evalF f y = .agg (Rep.cells b).toArray) (h : a ≠ b) : Val P ⟨some d, .binOp .neq t x y yt, ty, pos, af, gd⟩ f L (.bool true) := by
  rw [← decide_eq_true h]; exact vl_neqT hx hy
theorem vl_neqT_f {a b : α} (hx : evalF f x = .agg (Rep.cells a).toArray) (hy : evalF f y = .agg (Rep.cells b).toArray) (h : a = b) : Val P ⟨some d, .binOp .neq t x y yt, ty, pos, af, gd⟩ f L (.bool false) := by
  rw [← decide_eq_false (show ¬ (a ≠ b) by simpa using h)]; exact vl_neqT hx hy
end
end
end Go.Proofs.Ytcclbplccnaonaa
