/- Several texts, one behind the other; each says in its head what it proves. No condition. -/
import Derived.Test.YtcclbplccnaonaaZkhepinjh
import Derived.Test.YtcclbplccnaonaaZafpmlbep
import Derived.Test.YtcclbplccnaonaaZpgmlloom
import Derived.Test.YtcclbplccnaonaaZegefllce
import Derived.Test.YtcclbplccnaonaaChecked
import Derived.Test.YtcclbplccnaonaaZemefjcfc
/- What is left of a drained list, in plain words. No condition. -/
namespace Go.Proofs.Ytcclbplccnaonaa
open Go.RowKit
set_option linter.unusedSimpArgs false
set_option linter.unusedVariables false
theorem le_refl_clk (c : Clk) : c.le c = true := (Clk.le_iff c c).2 fun j _ => Int.le_refl _
theorem le_trans_clk {a b c : Clk} (h : a.le b = true) (k : b.le c = true) : a.le c = true :=
  (Clk.le_iff a c).2 fun j hj => Int.le_trans ((Clk.le_iff a b).1 h j hj) ((Clk.le_iff b c).1 k j hj)
theorem has_mono {a b : Clk} (h : a.le b = true) {r n : Int} (k : a.has r n = true) : b.has r n = true := by
  obtain ⟨h0, h1, h2, h3⟩ := (Clk.has_iff a r n).1 k
  exact (Clk.has_iff b r n).2 ⟨h0, h1, h2, Int.le_trans h3 ((Clk.le_iff a b).1 h _ (by omega))⟩
theorem rdy_le {c : Clk} {e : Ev} (h : e.rdy c) : c.le (c.set e.r.toNat e.n) = true := by
  obtain ⟨h0, h1, h2, h3, _⟩ := h
  refine (Clk.le_iff _ _).2 fun j hj => ?_
  rw [Clk.get_set _ _ _ _ (by omega)]
  split
  · rename_i hje; subst hje; omega
  · exact Int.le_refl _
theorem rdy_has {c : Clk} {e : Ev} (h : e.rdy c) : (c.set e.r.toNat e.n).has e.r e.n = true := by
  obtain ⟨h0, h1, h2, h3, _⟩ := h
  refine (Clk.has_iff _ _ _).2 ⟨h0, h1, h2, ?_⟩
  rw [Clk.get_set _ _ _ _ (by omega), if_pos rfl]
  exact Int.le_refl _
/-- Who was not seen, and has another mark, is not seen then. -/
theorem rdy_keep {c : Clk} {e x : Ev} (h : e.rdy c) (hx : c.has x.r x.n = false) (hne : x.mk_ ≠ e.mk_) : (c.set e.r.toNat e.n).has x.r x.n = false := by
  obtain ⟨h0, h1, h2, h3, _⟩ := h
  refine Clk.has_f fun ⟨k0, k1, k2, k3⟩ => ?_
  rw [Clk.get_set _ _ _ _ (by omega)] at k3
  split at k3
  · rename_i hre
    have hr : x.r = e.r := by omega
    have hn : x.n ≠ e.n := fun hn => hne (by simp only [Ev.mk_, hr, hn])
    have : c.has x.r x.n = true := (Clk.has_iff _ _ _).2 ⟨k0, k1, k2, by rw [hr]; omega⟩
    rw [this] at hx
    cases hx
  · have : c.has x.r x.n = true := (Clk.has_iff _ _ _).2 ⟨k0, k1, k2, k3⟩
    rw [this] at hx
    cases hx
theorem mem_erase_ne {l : List Ev} (hd : Dst l) {i : Nat} (hi : i < l.length) {x : Ev} (hx : x ∈ l.eraseIdx i) : x ∈ l ∧ x.mk_ ≠ (l[i]'hi).mk_ := by
  obtain ⟨j, hji, hj⟩ := List.mem_eraseIdx_iff_getElem?.1 hx
  obtain ⟨hjl, rfl⟩ := List.getElem?_eq_some_iff.1 hj
  exact ⟨List.getElem_mem hjl, fun h => hji (hd.inj hjl hi h)⟩
theorem drain_le (c : Clk) (l : List Ev) : Dst l → c.le (drain c l).2.2 = true := by
  refine drain_induct (motive := fun c l => Dst l → c.le (drain c l).2.2 = true) (fun c l h _ => ?_) (fun c l i hi h ih hd => ?_) c l
  · rw [drain_stop h]; exact le_refl_clk c
  · rw [drain_step hd hi h]
    exact le_trans_clk (rdy_le h.2.1) (ih (hd.erase i))
theorem drain_done (c : Clk) (l : List Ev) : Dst l → ∀ e ∈ (drain c l).1, (drain c l).2.2.has e.r e.n = true := by
  refine drain_induct (motive := fun c l => Dst l → ∀ e ∈ (drain c l).1, (drain c l).2.2.has e.r e.n = true) (fun c l h _ => ?_) (fun c l i hi h ih hd => ?_) c l
  · rw [drain_stop h]; intro e he; simp at he
  · rw [drain_step hd hi h]
    intro e he
    rcases List.mem_cons.1 he with rfl | he
    · exact has_mono (drain_le _ _ (hd.erase i)) (rdy_has h.2.1)
    · exact ih (hd.erase i) e he
theorem drain_left (c : Clk) (l : List Ev) : Dst l → (∀ e ∈ l, c.has e.r e.n = false) → ∀ e ∈ (drain c l).2.1, (drain c l).2.2.has e.r e.n = false := by
  refine drain_induct (motive := fun c l => Dst l → (∀ e ∈ l, c.has e.r e.n = false) → ∀ e ∈ (drain c l).2.1, (drain c l).2.2.has e.r e.n = false) (fun c l h _ hn => ?_) (fun c l i hi h ih hd hn => ?_) c l
  · rw [drain_stop h]; exact hn
  · rw [drain_step hd hi h]
    refine ih (hd.erase i) fun e he => ?_
    obtain ⟨h1, h2⟩ := mem_erase_ne hd hi he
    exact rdy_keep h.2.1 (hn e h1) h2
theorem drain_end (c : Clk) (l : List Ev) : Dst l → ∀ i, ¬ NextI (drain c l).2.2 (drain c l).2.1 i := by
  refine drain_induct (motive := fun c l => Dst l → ∀ i, ¬ NextI (drain c l).2.2 (drain c l).2.1 i) (fun c l h _ => ?_) (fun c l i hi h ih hd => ?_) c l
  · rw [drain_stop h]; exact h
  · rw [drain_step hd hi h]; exact ih (hd.erase i)
theorem drain_I (c : Clk) (l : List Ev) : Dst l → c.I → (∀ e ∈ l, I64 e.n) → (drain c l).2.2.I := by
  refine drain_induct (motive := fun c l => Dst l → c.I → (∀ e ∈ l, I64 e.n) → (drain c l).2.2.I) (fun c l h _ hc _ => ?_) (fun c l i hi h ih hd hc hl => ?_) c l
  · rw [drain_stop h]; exact hc
  · rw [drain_step hd hi h]
    have hr := h.2.1
    exact ih (hd.erase i) (hc.set (by have := hr.1; have := hr.2.1; omega) (hl _ (List.getElem_mem hi))) fun e he => hl e ((List.eraseIdx_sublist ..).subset he)
/-- How often a mark is there. -/
def cnt (k : Mk) (l : List Ev) : Nat := l.countP fun e => decide (e.mk_ = k)
theorem cnt_take (k : Mk) (l : List Ev) (i : Nat) (h : i < l.length) : cnt k (l.take (i + 1)) = cnt k (l.take i) + if (l[i]'h).mk_ = k then 1 else 0 := by
  unfold cnt
  rw [List.take_succ_eq_append_getElem h, List.countP_append]
  congr 1
  simp [List.countP_cons]
theorem cnt_erase (k : Mk) (l : List Ev) (i : Nat) (h : i < l.length) : cnt k l = (if (l[i]'h).mk_ = k then 1 else 0) + cnt k (l.eraseIdx i) := by
  unfold cnt
  have e : l = l.take i ++ l[i]'h :: l.drop (i + 1) := by rw [List.getElem_cons_drop, List.take_append_drop]
  rw [List.eraseIdx_eq_take_drop_succ]
  conv => lhs; rw [e]
  rw [List.countP_append, List.countP_append, List.countP_cons]
  simp only [decide_eq_true_eq]
  omega
theorem drain_cnt (k : Mk) (c : Clk) (l : List Ev) : Dst l → cnt k (drain c l).1 + cnt k (drain c l).2.1 = cnt k l := by
  refine drain_induct (motive := fun c l => Dst l → cnt k (drain c l).1 + cnt k (drain c l).2.1 = cnt k l) (fun c l h _ => ?_) (fun c l i hi h ih hd => ?_) c l
  · rw [drain_stop h]; simp [cnt]
  · rw [drain_step hd hi h, cnt_erase k l i hi]
    have := ih (hd.erase i)
    have e : ∀ (a : Ev) (t : List Ev), cnt k (a :: t) = (if a.mk_ = k then 1 else 0) + cnt k t := fun a t => by
      unfold cnt
      rw [List.countP_cons]
      simp only [decide_eq_true_eq]
      omega
    show cnt k ((l[i]'hi) :: (drain (c.set (l[i]'hi).r.toNat (l[i]'hi).n) (l.eraseIdx i)).1) + cnt k (drain (c.set (l[i]'hi).r.toNat (l[i]'hi).n) (l.eraseIdx i)).2.1 = _
    rw [e]
    omega
theorem cnt_le_one {l : List Ev} (hd : Dst l) (k : Mk) : cnt k l ≤ 1 := by
  induction l with
  | nil => simp [cnt]
  | cons a l ih =>
    have h2 := List.pairwise_cons.1 hd
    unfold cnt at ih ⊢
    rw [List.countP_cons]
    split
    · rename_i hk
      have : l.countP (fun e => decide (e.mk_ = k)) = 0 := List.countP_eq_zero.2 fun x hx => by
        have := h2.1 x hx
        rw [of_decide_eq_true hk] at this
        simpa using fun h : x.mk_ = k => this h.symm
      omega
    · have := ih h2.2; omega
/-- Each mark of a list is there once behind, if it was not seen; else not at all. -/
theorem closed_cnt (c : Clk) (w : List Ev) (x : Ev) (hx : x ∈ w) : cnt x.mk_ (drain c (freshL c w)).1 + cnt x.mk_ (drain c (freshL c w)).2.1 = if c.has x.r x.n = true then 0 else 1 := by
  have hd : Dst (freshL c w) := freshL_dst c w [] List.Pairwise.nil
  rw [drain_cnt _ _ _ hd]
  cases hh : c.has x.r x.n
  · rw [if_neg (by simp)]
    have h1 := cnt_le_one hd x.mk_
    have h2 : ((freshL c w).any fun y => decide (y.mk_ = x.mk_)) = true := by
      rw [freshL_any c w x hh]
      exact List.any_eq_true.2 ⟨x, hx, decide_eq_true rfl⟩
    have h3 : 0 < cnt x.mk_ (freshL c w) := by
      unfold cnt
      rw [List.countP_pos_iff]
      obtain ⟨y, hy, hyx⟩ := List.any_eq_true.1 h2
      exact ⟨y, hy, hyx⟩
    omega
  · rw [if_pos rfl]
    unfold cnt
    refine List.countP_eq_zero.2 fun y hy => ?_
    have h1 := freshL_has c w y hy
    intro h
    have h := of_decide_eq_true h
    have e1 : y.r = x.r := congrArg Mk.r h
    have e2 : y.n = x.n := congrArg Mk.n h
    rw [e1, e2, hh] at h1
    cases h1
theorem freshL_id {c : Clk} {l : List Ev} (hd : Dst l) (h : ∀ e ∈ l, c.has e.r e.n = false) : freshL c l = l := by
  have key : ∀ (l acc : List Ev), Dst (acc ++ l) → (∀ e ∈ l, c.has e.r e.n = false) → l.foldl (freshS c) acc = acc ++ l := by
    intro l
    induction l with
    | nil => intro acc _ _; simp
    | cons a l ih =>
      intro acc hd h
      have hs : freshS c acc a = acc ++ [a] := by
        unfold freshS
        rw [if_neg]
        rintro (hx | hx)
        · obtain ⟨y, hy, hya⟩ := List.any_eq_true.1 hx
          exact (List.pairwise_append.1 hd).2.2 y hy a (by simp) (of_decide_eq_true hya)
        · rw [h a (by simp)] at hx; cases hx
      rw [List.foldl_cons, hs, ih (acc ++ [a]) (by simpa using hd) (fun e he => h e (List.mem_cons_of_mem _ he))]
      simp
  exact key l [] hd h
theorem drain_again (c : Clk) (w : List Ev) : drain (drain c (freshL c w)).2.2 (freshL (drain c (freshL c w)).2.2 (drain c (freshL c w)).2.1) = ([], (drain c (freshL c w)).2.1, (drain c (freshL c w)).2.2) := by
  have hd : Dst (freshL c w) := freshL_dst c w [] List.Pairwise.nil
  rw [freshL_id (hd.sublist (drain_sub _ _ hd)) (drain_left _ _ hd (freshL_has c w))]
  exact drain_stop (drain_end _ _ hd)
end Go.Proofs.Ytcclbplccnaonaa
/- A right past, made, in plain words. No condition. -/
namespace Go.Proofs.Ytcclbplccnaonaa
open Go.RowKit
set_option linter.unusedSimpArgs false
set_option linter.unusedVariables false
/-- A choice. -/
structure Ch where
  r : Int
  from_ : Int
  sync : Bool
  ed : Ed
instance : Rep Ch := ⟨7, fun c => [.int .u8 c.r, .int .u8 c.from_, .bool c.sync, .int .i64 c.ed.kind, .string (S c.ed.key), .int .i64 c.ed.label, .string (S c.ed.value)], by decide, fun _ => rfl, fun _ => rfl⟩
structure Ch.Ok (c : Ch) : Prop where
  r : 0 ≤ c.r ∧ c.r ≤ 255
  f : 0 ≤ c.from_ ∧ c.from_ ≤ 255
  k : c.ed.key.length ≤ 140737488355328
  v : c.ed.value.length ≤ 140737488355328
def heightS (c : Clk) (s : Int × Bool) (e : Ev) : Int × Bool := if c.has e.r e.n = true ∧ (s.2 = false ∨ s.1 < e.h) then (e.h, true) else s
def heightP (out : List Ev) (c : Clk) : Int := (out.foldl (heightS c) (0, false)).1 + 1
/-- What is made so far, and what each replica has. -/
def mkStep (s : List Ev × List Clk) (ch : Ch) : List Ev × List Clk :=
  let c := s.2.getD (ch.r % 5).toNat Clk.zero
  if ch.sync = true then (s.1, s.2.set (ch.r % 5).toNat (c.join (s.2.getD (ch.from_ % 5).toNat Clk.zero)))
  else (s.1 ++ [⟨ch.r % 5, c.get (ch.r % 5).toNat + 1, c, heightP s.1 c, ch.ed.fit⟩], s.2.set (ch.r % 5).toNat (c.set (ch.r % 5).toNat (c.get (ch.r % 5).toNat + 1)))
def makeS (l : List Ch) : List Ev × List Clk := l.foldl mkStep ([], List.replicate 5 Clk.zero)
def makeP (l : List Ch) : List Ev := (makeS l).1
theorem makeS_take (l : List Ch) (i : Nat) (h : i < l.length) : makeS (l.take (i + 1)) = mkStep (makeS (l.take i)) (l[i]'h) := by
  rw [List.take_succ_eq_append_getElem h]
  unfold makeS
  rw [List.foldl_append]
  rfl
/-- Small numbers. -/
structure MkOk (m : Int) (s : List Ev × List Clk) : Prop where
  five : s.2.length = 5
  clk : ∀ c ∈ s.2, ∀ j, 0 ≤ c.get j ∧ c.get j ≤ m
  len : (s.1.length : Int) ≤ m
  n : ∀ e ∈ s.1, 1 ≤ e.n ∧ e.n ≤ m
  r : ∀ e ∈ s.1, 0 ≤ e.r ∧ e.r < 5
  h : ∀ e ∈ s.1, 1 ≤ e.h ∧ e.h ≤ m
theorem clk_join_get (a b : Clk) (j : Nat) : (a.join b).get j = max (a.get j) (b.get j) ∨ (a.join b).get j = 0 := by
  match j with
  | 0 => exact .inl rfl
  | 1 => exact .inl rfl
  | 2 => exact .inl rfl
  | 3 => exact .inl rfl
  | 4 => exact .inl rfl
  | j + 5 => right; simp [Clk.get]
theorem height_bd {out : List Ev} {c : Clk} {m : Int} (h : ∀ e ∈ out, 1 ≤ e.h ∧ e.h ≤ m) (hm : 0 ≤ m) : 0 ≤ (out.foldl (heightS c) (0, false)).1 ∧ (out.foldl (heightS c) (0, false)).1 ≤ m := by
  have key : ∀ (l : List Ev) (s : Int × Bool), (∀ e ∈ l, 1 ≤ e.h ∧ e.h ≤ m) → 0 ≤ s.1 ∧ s.1 ≤ m → 0 ≤ (l.foldl (heightS c) s).1 ∧ (l.foldl (heightS c) s).1 ≤ m := by
    intro l
    induction l with
    | nil => intro s _ h; exact h
    | cons a l ih =>
      intro s hl hs
      refine ih _ (fun e he => hl e (List.mem_cons_of_mem _ he)) ?_
      have := hl a (List.mem_cons_self ..)
      unfold heightS
      split
      · exact ⟨by show 0 ≤ a.h; omega, this.2⟩
      · exact hs
  exact key out (0, false) h ⟨Int.le_refl _, hm⟩
theorem getD_mem {s : List Clk} (h5 : s.length = 5) {r : Int} (h0 : 0 ≤ r ∧ r ≤ 255) : ∃ h : (r % 5).toNat < s.length, s.getD (r % 5).toNat Clk.zero = s[(r % 5).toNat]'h := by
  have h : (r % 5).toNat < s.length := by omega
  exact ⟨h, by simp [List.getD, h]⟩
theorem MkOk.step {m : Int} {s : List Ev × List Clk} (k : MkOk m s) {ch : Ch} (hc : ch.Ok) (hm : 0 ≤ m) : MkOk (m + 1) (mkStep s ch) := by
  obtain ⟨h5, h1, h2, h3, h4, h6⟩ := k
  obtain ⟨hl, he⟩ := getD_mem h5 hc.r
  obtain ⟨hl2, he2⟩ := getD_mem h5 hc.f
  have hcm := h1 _ (List.getElem_mem hl)
  have hcm2 := h1 _ (List.getElem_mem hl2)
  rw [← he] at hcm
  rw [← he2] at hcm2
  unfold mkStep
  simp only
  split
  · refine ⟨by simpa using h5, fun c hx j => ?_, by show (s.1.length : Int) ≤ m + 1; omega, fun e hx => by have := h3 e hx; omega, h4, fun e hx => by have := h6 e hx; omega⟩
    rcases List.mem_or_eq_of_mem_set hx with hx | rfl
    · have := h1 c hx j; omega
    · have a := hcm j
      have b := hcm2 j
      rcases clk_join_get (s.2.getD (ch.r % 5).toNat Clk.zero) (s.2.getD (ch.from_ % 5).toNat Clk.zero) j with h | h <;> rw [h] <;> omega
  · have hg := hcm (ch.r % 5).toNat
    have hb := height_bd (c := s.2.getD (ch.r % 5).toNat Clk.zero) h6 hm
    refine ⟨by simpa using h5, fun c hx j => ?_, by simp; omega, fun e hx => ?_, fun e hx => ?_, fun e hx => ?_⟩
    · rcases List.mem_or_eq_of_mem_set hx with hx | rfl
      · have := h1 c hx j; omega
      · rw [Clk.get_set _ _ _ _ (by omega)]
        split
        · omega
        · have := hcm j; omega
    · rcases List.mem_append.1 hx with hx | hx
      · have := h3 e hx; omega
      · simp only [List.mem_singleton] at hx; subst hx; simp only; omega
    · rcases List.mem_append.1 hx with hx | hx
      · exact h4 e hx
      · simp only [List.mem_singleton] at hx; subst hx; simp only; omega
    · rcases List.mem_append.1 hx with hx | hx
      · have := h6 e hx; omega
      · simp only [List.mem_singleton] at hx; subst hx; simp only [heightP]; omega
theorem makeS_ok (l : List Ch) (h : ∀ c ∈ l, c.Ok) : MkOk l.length (makeS l) := by
  have key : ∀ i, i ≤ l.length → MkOk i (makeS (l.take i)) := by
    intro i
    induction i with
    | zero =>
      intro _
      refine ⟨rfl, fun c hc j => ?_, by simp [makeS], by simp [makeS], by simp [makeS], by simp [makeS]⟩
      have : c = Clk.zero := List.eq_of_mem_replicate hc
      subst this
      match j with
      | 0 => decide
      | 1 => decide
      | 2 => decide
      | 3 => decide
      | 4 => decide
      | j + 5 => simp [Clk.get]
    | succ i ih =>
      intro hi
      rw [makeS_take l i (by omega)]
      have := (ih (by omega)).step (h _ (List.getElem_mem (by omega : i < l.length))) (by omega)
      simpa using this
  have := key l.length (Nat.le_refl _)
  rwa [List.take_length] at this
end Go.Proofs.Ytcclbplccnaonaa
/- Package text over parts of memory. No condition. -/
namespace Go.Proofs.Ytcclbplccnaonaa
open Go.RowKit
set_option linter.unusedSimpArgs false
set_option linter.unusedVariables false
def keyE (l : List UInt8) : Int := if 1 ≤ l.length ∧ l.length ≤ 8 ∧ l.all letter = true then 0 else 10
def labelE (n : Int) : Int := if 0 ≤ n ∧ n < 2 then 0 else 11
def valueE (l : List UInt8) : Int := if 1 ≤ l.length ∧ l.length ≤ 12 then 0 else 12
/-- What is told of an edit. -/
def Ed.err (e : Ed) : Int :=
  if e.kind < 1 ∨ 5 < e.kind then 1 else if keyE e.key ≠ 0 then keyE e.key
  else if e.kind = 1 ∨ e.kind = 2 then (if e.label ≠ 0 then 11 else if e.value ≠ [] then 12 else 0)
  else if labelE e.label ≠ 0 then labelE e.label else valueE e.value
theorem keyErr_S (l : List UInt8) : keyErr (S l) = keyE l := by simp [keyErr, keyE, S_size]
theorem valueErr_S (l : List UInt8) : valueErr (S l) = valueE l := by simp [valueErr, valueE, S_size]
theorem key_fnE (s : List UInt8) (L : List Assn) (hs : s.length ≤ 9223372036854775807) : Fn Try.prog 52 #[.string (S s)] L fun v L' => v = .int .i64 (keyE s) ∧ L' = L := by
  rw [← keyErr_S]; exact Fn.of_kp fun w => text_Key _ w (by rw [S_size]; exact hs)
theorem label_fnE (n : Int) (L : List Assn) : Fn Try.prog 53 #[.int .i64 n] L fun v L' => v = .int .i64 (labelE n) ∧ L' = L := Fn.of_kp fun w => text_Label n w
theorem value_fnE (s : List UInt8) (L : List Assn) (hs : s.length ≤ 9223372036854775807) : Fn Try.prog 54 #[.string (S s)] L fun v L' => v = .int .i64 (valueE s) ∧ L' = L := by
  rw [← valueErr_S]; exact Fn.of_kp fun w => text_Value _ w (by rw [S_size]; exact hs)
set_option maxRecDepth 20000 attribute [local irreducible] Ex ExL Fn thn inb rnd fin meet Tab Mix mxEnd Val Sats RdT Rd RowT Row Blk Sub Fac ResV RVal Evs subs subs3 Hid Capd
set_option maxHeartbeats 1000000 in
theorem textEdit_fn (e : Ed) (L : List Assn) (hk : e.key.length ≤ 9223372036854775807) (hv : e.value.length ≤ 9223372036854775807) : Fn Try.prog 45 #[.agg (Rep.cells e).toArray] L fun v L' => v = .int .i64 e.err ∧ L' = L := by
  have h10 : keyE e.key = 0 ∨ keyE e.key = 10 := by unfold keyE; split <;> simp
  have h11 : labelE e.label = 0 ∨ labelE e.label = 11 := by unfold labelE; split <;> simp
  refine Fn.of_ex Try.func45 rfl Try.ntmps45 rfl ?_
  (repeat' (first | refine ExL.val rJ rJ rJ rV ?_ | (first | refine Ex.seq ?_ | refine Ex.region ?_ | refine ExL.nil ?_ | refine thn_n ?_ | refine Ex.cond_t rJ ?_ | refine Ex.cond_f rJ ?_ | refine Ex.skip ?_ | refine Ex.block ?_ | refine Ex.exit ?_ | refine Ex.ret ?_ | refine thn_exit ?_ | refine thn_ret ?_ | refine inb_n ?_ | refine inb_hit rJ ?_ | refine inb_miss rJ ?_ | refine inb_ret ?_ | refine rnd_exit ?_ | refine rnd_ret ?_ | refine meet_ret ?_ | refine meet_exit ?_) | (apply exlGuard; first | refine ExL.gskip rJ rJ rJ rJ rJ rJ ?_ | refine ExL.gtake rJ rJ rJ rJ ?_ | refine ExL.gskipU rJ rJ rJ rJ ?_ | (refine ExL.gsplit rJ rJ rJ (fun h => ?_) (fun h => ?_) <;> try (exfalso; omega))) | (first | refine st_new_ rJ rE (fun g => ?_) | refine st_boxA rJ rJ (fun g => ?_) | refine st_box1 rJ rE rN (fun g => ?_) | (apply exlStore; first | refine st_store1_ _ rJ rK rE rN rJ rJ rE rE ?_ | refine st_storeW_ _ rJ rK rJ rC rJ rJ rJ rE ?_ | refine st_storeR _ rJ rK rJ rE rJ rJ rE ?_ | refine st_storeA_ _ rJ rK rJ rC rJ rJ rJ rE rE ?_ | refine st_storeB _ rJ rJ rO rO rK rJ rO ?_ | refine st_storeG _ rJ rK rE rN rJ rO (fun cs hcs => ?_)) | refine st_slice0 rJ rJ rJ rJ (fun g => ?_) | refine st_slice1T rJ rJ rJ rJ (fun g => ?_) | refine st_makeT rJ rJ rJ rJ rE rJ rO rO (fun v o => ?_) | (apply exlCopy; first | refine st_copyW _ rJ rE rK rE rD rJ rE rJ (fun zs hzs => ?_) | refine st_copyS _ rJ rJ rK rE rD rJ rE rJ rO rO (fun zs hzs => ?_)) | refine st_sliceB rJ rJ rJ rJ rJ rJ rJ rL rE rE rJ (fun g => ?_) | refine st_slice1I rJ rJ rJ rJ rJ rJ (fun g => ?_) | refine st_slice1B rJ rJ rJ rJ rJ rJ rO rO (fun g => ?_) | refine st_slice1S rJ rJ rJ rJ rJ rJ (fun g => ?_) | refine st_slice2B rJ rJ rJ rJ rJ rJ rJ rO rO rO rO (fun g => ?_) | (apply exlConv; first | refine st_bytes rJ rJ rJ rJ rJ rO (fun v o => ?_) | refine st_mark _ rJ rJ rK rJ rJ rJ ?_) | refine st_clear _ (0 : UInt8) rJ rK rJ rJ rJ rJ rJ rO ?_ | refine st_clearT _ rJ rK rO rJ rJ rO rE ?_ | (apply exlAppend; first | refine st_app0 rJ rJ rE rD rJ rE rJ rE rJ rJ rJ rO (fun v o => ?_) | refine st_app _ rJ rE rK rE rD rJ rE rJ rE rJ rJ rJ rO (fun v o => ?_) | refine st_shift _ rJ rJ rJ rK rO rJ rJ rJ rO rO rE ?_)) | (refine Ex.cond_d rJ (fun h => ?_) (fun h => ?_) <;> try (exfalso; omega))))
  · (first | refine fin_ret rS ?_ | refine fin_norm rS ?_)
    exact ⟨_, rB, vint (by unfold Ed.err; rw [if_pos (by omega)]), rfl⟩
  · (first | refine fin_ret rS ?_ | refine fin_norm rS ?_)
    exact ⟨_, rB, vint (by unfold Ed.err; rw [if_pos (by omega)]), rfl⟩
  (refine st_callIs [] rJ Try.call52 rJ rJ (key_fnE _ _ hk) ?_; rintro _ _ ⟨rfl, rfl⟩)
  (repeat' (first | refine ExL.val rJ rJ rJ rV ?_ | (first | refine Ex.seq ?_ | refine Ex.region ?_ | refine ExL.nil ?_ | refine thn_n ?_ | refine Ex.cond_t rJ ?_ | refine Ex.cond_f rJ ?_ | refine Ex.skip ?_ | refine Ex.block ?_ | refine Ex.exit ?_ | refine Ex.ret ?_ | refine thn_exit ?_ | refine thn_ret ?_ | refine inb_n ?_ | refine inb_hit rJ ?_ | refine inb_miss rJ ?_ | refine inb_ret ?_ | refine rnd_exit ?_ | refine rnd_ret ?_ | refine meet_ret ?_ | refine meet_exit ?_) | (apply exlGuard; first | refine ExL.gskip rJ rJ rJ rJ rJ rJ ?_ | refine ExL.gtake rJ rJ rJ rJ ?_ | refine ExL.gskipU rJ rJ rJ rJ ?_ | (refine ExL.gsplit rJ rJ rJ (fun h => ?_) (fun h => ?_) <;> try (exfalso; omega))) | (first | refine st_new_ rJ rE (fun g => ?_) | refine st_boxA rJ rJ (fun g => ?_) | refine st_box1 rJ rE rN (fun g => ?_) | (apply exlStore; first | refine st_store1_ _ rJ rK rE rN rJ rJ rE rE ?_ | refine st_storeW_ _ rJ rK rJ rC rJ rJ rJ rE ?_ | refine st_storeR _ rJ rK rJ rE rJ rJ rE ?_ | refine st_storeA_ _ rJ rK rJ rC rJ rJ rJ rE rE ?_ | refine st_storeB _ rJ rJ rO rO rK rJ rO ?_ | refine st_storeG _ rJ rK rE rN rJ rO (fun cs hcs => ?_)) | refine st_slice0 rJ rJ rJ rJ (fun g => ?_) | refine st_slice1T rJ rJ rJ rJ (fun g => ?_) | refine st_makeT rJ rJ rJ rJ rE rJ rO rO (fun v o => ?_) | (apply exlCopy; first | refine st_copyW _ rJ rE rK rE rD rJ rE rJ (fun zs hzs => ?_) | refine st_copyS _ rJ rJ rK rE rD rJ rE rJ rO rO (fun zs hzs => ?_)) | refine st_sliceB rJ rJ rJ rJ rJ rJ rJ rL rE rE rJ (fun g => ?_) | refine st_slice1I rJ rJ rJ rJ rJ rJ (fun g => ?_) | refine st_slice1B rJ rJ rJ rJ rJ rJ rO rO (fun g => ?_) | refine st_slice1S rJ rJ rJ rJ rJ rJ (fun g => ?_) | refine st_slice2B rJ rJ rJ rJ rJ rJ rJ rO rO rO rO (fun g => ?_) | (apply exlConv; first | refine st_bytes rJ rJ rJ rJ rJ rO (fun v o => ?_) | refine st_mark _ rJ rJ rK rJ rJ rJ ?_) | refine st_clear _ (0 : UInt8) rJ rK rJ rJ rJ rJ rJ rO ?_ | refine st_clearT _ rJ rK rO rJ rJ rO rE ?_ | (apply exlAppend; first | refine st_app0 rJ rJ rE rD rJ rE rJ rE rJ rJ rJ rO (fun v o => ?_) | refine st_app _ rJ rE rK rE rD rJ rE rJ rE rJ rJ rJ rO (fun v o => ?_) | refine st_shift _ rJ rJ rJ rK rO rJ rJ rJ rO rO rE ?_)) | (refine Ex.cond_d rJ (fun h => ?_) (fun h => ?_) <;> try (exfalso; omega))))
  all_goals first
    | ((refine st_callIs [] rJ Try.call53 rJ rJ (label_fnE _ _) ?_; rintro _ _ ⟨rfl, rfl⟩); (repeat' (first | refine ExL.val rJ rJ rJ rV ?_ | (first | refine Ex.seq ?_ | refine Ex.region ?_ | refine ExL.nil ?_ | refine thn_n ?_ | refine Ex.cond_t rJ ?_ | refine Ex.cond_f rJ ?_ | refine Ex.skip ?_ | refine Ex.block ?_ | refine Ex.exit ?_ | refine Ex.ret ?_ | refine thn_exit ?_ | refine thn_ret ?_ | refine inb_n ?_ | refine inb_hit rJ ?_ | refine inb_miss rJ ?_ | refine inb_ret ?_ | refine rnd_exit ?_ | refine rnd_ret ?_ | refine meet_ret ?_ | refine meet_exit ?_) | (apply exlGuard; first | refine ExL.gskip rJ rJ rJ rJ rJ rJ ?_ | refine ExL.gtake rJ rJ rJ rJ ?_ | refine ExL.gskipU rJ rJ rJ rJ ?_ | (refine ExL.gsplit rJ rJ rJ (fun h => ?_) (fun h => ?_) <;> try (exfalso; omega))) | (first | refine st_new_ rJ rE (fun g => ?_) | refine st_boxA rJ rJ (fun g => ?_) | refine st_box1 rJ rE rN (fun g => ?_) | (apply exlStore; first | refine st_store1_ _ rJ rK rE rN rJ rJ rE rE ?_ | refine st_storeW_ _ rJ rK rJ rC rJ rJ rJ rE ?_ | refine st_storeR _ rJ rK rJ rE rJ rJ rE ?_ | refine st_storeA_ _ rJ rK rJ rC rJ rJ rJ rE rE ?_ | refine st_storeB _ rJ rJ rO rO rK rJ rO ?_ | refine st_storeG _ rJ rK rE rN rJ rO (fun cs hcs => ?_)) | refine st_slice0 rJ rJ rJ rJ (fun g => ?_) | refine st_slice1T rJ rJ rJ rJ (fun g => ?_) | refine st_makeT rJ rJ rJ rJ rE rJ rO rO (fun v o => ?_) | (apply exlCopy; first | refine st_copyW _ rJ rE rK rE rD rJ rE rJ (fun zs hzs => ?_) | refine st_copyS _ rJ rJ rK rE rD rJ rE rJ rO rO (fun zs hzs => ?_)) | refine st_sliceB rJ rJ rJ rJ rJ rJ rJ rL rE rE rJ (fun g => ?_) | refine st_slice1I rJ rJ rJ rJ rJ rJ (fun g => ?_) | refine st_slice1B rJ rJ rJ rJ rJ rJ rO rO (fun g => ?_) | refine st_slice1S rJ rJ rJ rJ rJ rJ (fun g => ?_) | refine st_slice2B rJ rJ rJ rJ rJ rJ rJ rO rO rO rO (fun g => ?_) | (apply exlConv; first | refine st_bytes rJ rJ rJ rJ rJ rO (fun v o => ?_) | refine st_mark _ rJ rJ rK rJ rJ rJ ?_) | refine st_clear _ (0 : UInt8) rJ rK rJ rJ rJ rJ rJ rO ?_ | refine st_clearT _ rJ rK rO rJ rJ rO rE ?_ | (apply exlAppend; first | refine st_app0 rJ rJ rE rD rJ rE rJ rE rJ rJ rJ rO (fun v o => ?_) | refine st_app _ rJ rE rK rE rD rJ rE rJ rE rJ rJ rJ rO (fun v o => ?_) | refine st_shift _ rJ rJ rJ rK rO rJ rJ rJ rO rO rE ?_)) | (refine Ex.cond_d rJ (fun h => ?_) (fun h => ?_) <;> try (exfalso; omega)))))
    | skip
  all_goals first
    | ((refine st_callIs [] rJ Try.call54 rJ rJ (value_fnE _ _ hv) ?_; rintro _ _ ⟨rfl, rfl⟩); (repeat' (first | refine ExL.val rJ rJ rJ rV ?_ | (first | refine Ex.seq ?_ | refine Ex.region ?_ | refine ExL.nil ?_ | refine thn_n ?_ | refine Ex.cond_t rJ ?_ | refine Ex.cond_f rJ ?_ | refine Ex.skip ?_ | refine Ex.block ?_ | refine Ex.exit ?_ | refine Ex.ret ?_ | refine thn_exit ?_ | refine thn_ret ?_ | refine inb_n ?_ | refine inb_hit rJ ?_ | refine inb_miss rJ ?_ | refine inb_ret ?_ | refine rnd_exit ?_ | refine rnd_ret ?_ | refine meet_ret ?_ | refine meet_exit ?_) | (apply exlGuard; first | refine ExL.gskip rJ rJ rJ rJ rJ rJ ?_ | refine ExL.gtake rJ rJ rJ rJ ?_ | refine ExL.gskipU rJ rJ rJ rJ ?_ | (refine ExL.gsplit rJ rJ rJ (fun h => ?_) (fun h => ?_) <;> try (exfalso; omega))) | (first | refine st_new_ rJ rE (fun g => ?_) | refine st_boxA rJ rJ (fun g => ?_) | refine st_box1 rJ rE rN (fun g => ?_) | (apply exlStore; first | refine st_store1_ _ rJ rK rE rN rJ rJ rE rE ?_ | refine st_storeW_ _ rJ rK rJ rC rJ rJ rJ rE ?_ | refine st_storeR _ rJ rK rJ rE rJ rJ rE ?_ | refine st_storeA_ _ rJ rK rJ rC rJ rJ rJ rE rE ?_ | refine st_storeB _ rJ rJ rO rO rK rJ rO ?_ | refine st_storeG _ rJ rK rE rN rJ rO (fun cs hcs => ?_)) | refine st_slice0 rJ rJ rJ rJ (fun g => ?_) | refine st_slice1T rJ rJ rJ rJ (fun g => ?_) | refine st_makeT rJ rJ rJ rJ rE rJ rO rO (fun v o => ?_) | (apply exlCopy; first | refine st_copyW _ rJ rE rK rE rD rJ rE rJ (fun zs hzs => ?_) | refine st_copyS _ rJ rJ rK rE rD rJ rE rJ rO rO (fun zs hzs => ?_)) | refine st_sliceB rJ rJ rJ rJ rJ rJ rJ rL rE rE rJ (fun g => ?_) | refine st_slice1I rJ rJ rJ rJ rJ rJ (fun g => ?_) | refine st_slice1B rJ rJ rJ rJ rJ rJ rO rO (fun g => ?_) | refine st_slice1S rJ rJ rJ rJ rJ rJ (fun g => ?_) | refine st_slice2B rJ rJ rJ rJ rJ rJ rJ rO rO rO rO (fun g => ?_) | (apply exlConv; first | refine st_bytes rJ rJ rJ rJ rJ rO (fun v o => ?_) | refine st_mark _ rJ rJ rK rJ rJ rJ ?_) | refine st_clear _ (0 : UInt8) rJ rK rJ rJ rJ rJ rJ rO ?_ | refine st_clearT _ rJ rK rO rJ rJ rO rE ?_ | (apply exlAppend; first | refine st_app0 rJ rJ rE rD rJ rE rJ rE rJ rJ rJ rO (fun v o => ?_) | refine st_app _ rJ rE rK rE rD rJ rE rJ rE rJ rJ rJ rO (fun v o => ?_) | refine st_shift _ rJ rJ rJ rK rO rJ rJ rJ rO rO rE ?_)) | (refine Ex.cond_d rJ (fun h => ?_) (fun h => ?_) <;> try (exfalso; omega)))))
    | skip
  all_goals
    (first | refine fin_ret rS ?_ | refine fin_norm rS ?_)
    refine ⟨_, rB, vint ?_, rfl⟩
    unfold Ed.err
    repeat (first | rw [if_pos (by first | omega | assumption)] | rw [if_neg (by first | omega | assumption)])
end Go.Proofs.Ytcclbplccnaonaa
/- kithref05.Fit, walked. No condition. -/
namespace Go.Proofs.Ytcclbplccnaonaa
open Go.RowKit
set_option linter.unusedSimpArgs false
set_option linter.unusedVariables false
set_option maxRecDepth 20000 attribute [local irreducible] Ex ExL Fn thn inb rnd fin meet Tab Mix mxEnd Val Sats RdT Rd RowT Row Blk Sub Fac ResV RVal Evs subs subs3 Hid Capd
set_option maxHeartbeats 1000000 in
theorem fit_spec (e : Ed) (L : List Assn) (hk : e.key.length ≤ 140737488355328) (hv : e.value.length ≤ 140737488355328) : Fn Try.prog 29 #[e.val] L fun v L' => v = e.fit.val ∧ L' = L := by
  obtain ⟨kind, key, label, value⟩ := e
  have ht := tmod5 kind
  simp only [Ed.val, Ed.cells] at *
  refine Fn.of_ex Try.func29 rfl Try.ntmps29 rfl ?_
  (repeat' (first | refine ExL.val rJ rJ rJ rV ?_ | (first | refine Ex.seq ?_ | refine Ex.region ?_ | refine ExL.nil ?_ | refine thn_n ?_ | refine Ex.cond_t rJ ?_ | refine Ex.cond_f rJ ?_ | refine Ex.skip ?_ | refine Ex.block ?_ | refine Ex.exit ?_ | refine Ex.ret ?_ | refine thn_exit ?_ | refine thn_ret ?_ | refine inb_n ?_ | refine inb_hit rJ ?_ | refine inb_miss rJ ?_ | refine inb_ret ?_ | refine rnd_exit ?_ | refine rnd_ret ?_ | refine meet_ret ?_ | refine meet_exit ?_) | (apply exlGuard; first | refine ExL.gskip rJ rJ rJ rJ rJ rJ ?_ | refine ExL.gtake rJ rJ rJ rJ ?_ | refine ExL.gskipU rJ rJ rJ rJ ?_ | (refine ExL.gsplit rJ rJ rJ (fun h => ?_) (fun h => ?_) <;> try (exfalso; omega))) | (first | refine st_new_ rJ rE (fun g => ?_) | refine st_boxA rJ rJ (fun g => ?_) | refine st_box1 rJ rE rN (fun g => ?_) | (apply exlStore; first | refine st_store1_ _ rJ rK rE rN rJ rJ rE rE ?_ | refine st_storeW_ _ rJ rK rJ rC rJ rJ rJ rE ?_ | refine st_storeR _ rJ rK rJ rE rJ rJ rE ?_ | refine st_storeA_ _ rJ rK rJ rC rJ rJ rJ rE rE ?_ | refine st_storeB _ rJ rJ rO rO rK rJ rO ?_ | refine st_storeG _ rJ rK rE rN rJ rO (fun cs hcs => ?_)) | refine st_slice0 rJ rJ rJ rJ (fun g => ?_) | refine st_slice1T rJ rJ rJ rJ (fun g => ?_) | refine st_makeT rJ rJ rJ rJ rE rJ rO rO (fun v o => ?_) | (apply exlCopy; first | refine st_copyW _ rJ rE rK rE rD rJ rE rJ (fun zs hzs => ?_) | refine st_copyS _ rJ rJ rK rE rD rJ rE rJ rO rO (fun zs hzs => ?_)) | refine st_sliceB rJ rJ rJ rJ rJ rJ rJ rL rE rE rJ (fun g => ?_) | refine st_slice1I rJ rJ rJ rJ rJ rJ (fun g => ?_) | refine st_slice1B rJ rJ rJ rJ rJ rJ rO rO (fun g => ?_) | refine st_slice1S rJ rJ rJ rJ rJ rJ (fun g => ?_) | refine st_slice2B rJ rJ rJ rJ rJ rJ rJ rO rO rO rO (fun g => ?_) | (apply exlConv; first | refine st_bytes rJ rJ rJ rJ rJ rO (fun v o => ?_) | refine st_mark _ rJ rJ rK rJ rJ rJ ?_) | refine st_clear _ (0 : UInt8) rJ rK rJ rJ rJ rJ rJ rO ?_ | refine st_clearT _ rJ rK rO rJ rJ rO rE ?_ | (apply exlAppend; first | refine st_app0 rJ rJ rE rD rJ rE rJ rE rJ rJ rJ rO (fun v o => ?_) | refine st_app _ rJ rE rK rE rD rJ rE rJ rE rJ rJ rJ rO (fun v o => ?_) | refine st_shift _ rJ rJ rJ rK rO rJ rJ rJ rO rO rE ?_)) | (refine Ex.cond_d rJ (fun h => ?_) (fun h => ?_) <;> try (exfalso; omega))))
  refine Ex.loopS [5, 6] (fun m vs => ∃ k : Nat, k ≤ key.length ∧ m = key.length - k ∧ vs = [.int .i64 (sumB (key.take k)), .int .i64 k]) key.length ?_ ?_
  · exact ⟨0, by omega, by omega, rfl⟩
  rintro m vs g1 ⟨k, hk, rfl, rfl⟩
  have hb := sumB_bd (key.take k)
  simp only [List.length_take] at hb
  by_cases hlt : k < key.length
  · have := key[k].toNat_lt
    (repeat' (first | refine ExL.val rJ rJ rJ rV ?_ | (first | refine Ex.seq ?_ | refine Ex.region ?_ | refine ExL.nil ?_ | refine thn_n ?_ | refine Ex.cond_t rJ ?_ | refine Ex.cond_f rJ ?_ | refine Ex.skip ?_ | refine Ex.block ?_ | refine Ex.exit ?_ | refine Ex.ret ?_ | refine thn_exit ?_ | refine thn_ret ?_ | refine inb_n ?_ | refine inb_hit rJ ?_ | refine inb_miss rJ ?_ | refine inb_ret ?_ | refine rnd_exit ?_ | refine rnd_ret ?_ | refine meet_ret ?_ | refine meet_exit ?_) | (apply exlGuard; first | refine ExL.gskip rJ rJ rJ rJ rJ rJ ?_ | refine ExL.gtake rJ rJ rJ rJ ?_ | refine ExL.gskipU rJ rJ rJ rJ ?_ | (refine ExL.gsplit rJ rJ rJ (fun h => ?_) (fun h => ?_) <;> try (exfalso; omega))) | (first | refine st_new_ rJ rE (fun g => ?_) | refine st_boxA rJ rJ (fun g => ?_) | refine st_box1 rJ rE rN (fun g => ?_) | (apply exlStore; first | refine st_store1_ _ rJ rK rE rN rJ rJ rE rE ?_ | refine st_storeW_ _ rJ rK rJ rC rJ rJ rJ rE ?_ | refine st_storeR _ rJ rK rJ rE rJ rJ rE ?_ | refine st_storeA_ _ rJ rK rJ rC rJ rJ rJ rE rE ?_ | refine st_storeB _ rJ rJ rO rO rK rJ rO ?_ | refine st_storeG _ rJ rK rE rN rJ rO (fun cs hcs => ?_)) | refine st_slice0 rJ rJ rJ rJ (fun g => ?_) | refine st_slice1T rJ rJ rJ rJ (fun g => ?_) | refine st_makeT rJ rJ rJ rJ rE rJ rO rO (fun v o => ?_) | (apply exlCopy; first | refine st_copyW _ rJ rE rK rE rD rJ rE rJ (fun zs hzs => ?_) | refine st_copyS _ rJ rJ rK rE rD rJ rE rJ rO rO (fun zs hzs => ?_)) | refine st_sliceB rJ rJ rJ rJ rJ rJ rJ rL rE rE rJ (fun g => ?_) | refine st_slice1I rJ rJ rJ rJ rJ rJ (fun g => ?_) | refine st_slice1B rJ rJ rJ rJ rJ rJ rO rO (fun g => ?_) | refine st_slice1S rJ rJ rJ rJ rJ rJ (fun g => ?_) | refine st_slice2B rJ rJ rJ rJ rJ rJ rJ rO rO rO rO (fun g => ?_) | (apply exlConv; first | refine st_bytes rJ rJ rJ rJ rJ rO (fun v o => ?_) | refine st_mark _ rJ rJ rK rJ rJ rJ ?_) | refine st_clear _ (0 : UInt8) rJ rK rJ rJ rJ rJ rJ rO ?_ | refine st_clearT _ rJ rK rO rJ rJ rO rE ?_ | (apply exlAppend; first | refine st_app0 rJ rJ rE rD rJ rE rJ rE rJ rJ rJ rO (fun v o => ?_) | refine st_app _ rJ rE rK rE rD rJ rE rJ rE rJ rJ rJ rO (fun v o => ?_) | refine st_shift _ rJ rJ rJ rK rO rJ rJ rJ rO rO rE ?_)) | (refine Ex.cond_d rJ (fun h => ?_) (fun h => ?_) <;> try (exfalso; omega))))
    exact rnd_n ⟨key.length - (k + 1), _, by omega, Sub.refl _, ⟨k + 1, by omega, rfl, lcons (vint (sumB_succ key k hlt).symm) (lcons (vint (by omega)) rfl)⟩, rfl⟩
  (repeat' (first | refine ExL.val rJ rJ rJ rV ?_ | (first | refine Ex.seq ?_ | refine Ex.region ?_ | refine ExL.nil ?_ | refine thn_n ?_ | refine Ex.cond_t rJ ?_ | refine Ex.cond_f rJ ?_ | refine Ex.skip ?_ | refine Ex.block ?_ | refine Ex.exit ?_ | refine Ex.ret ?_ | refine thn_exit ?_ | refine thn_ret ?_ | refine inb_n ?_ | refine inb_hit rJ ?_ | refine inb_miss rJ ?_ | refine inb_ret ?_ | refine rnd_exit ?_ | refine rnd_ret ?_ | refine meet_ret ?_ | refine meet_exit ?_) | (apply exlGuard; first | refine ExL.gskip rJ rJ rJ rJ rJ rJ ?_ | refine ExL.gtake rJ rJ rJ rJ ?_ | refine ExL.gskipU rJ rJ rJ rJ ?_ | (refine ExL.gsplit rJ rJ rJ (fun h => ?_) (fun h => ?_) <;> try (exfalso; omega))) | (first | refine st_new_ rJ rE (fun g => ?_) | refine st_boxA rJ rJ (fun g => ?_) | refine st_box1 rJ rE rN (fun g => ?_) | (apply exlStore; first | refine st_store1_ _ rJ rK rE rN rJ rJ rE rE ?_ | refine st_storeW_ _ rJ rK rJ rC rJ rJ rJ rE ?_ | refine st_storeR _ rJ rK rJ rE rJ rJ rE ?_ | refine st_storeA_ _ rJ rK rJ rC rJ rJ rJ rE rE ?_ | refine st_storeB _ rJ rJ rO rO rK rJ rO ?_ | refine st_storeG _ rJ rK rE rN rJ rO (fun cs hcs => ?_)) | refine st_slice0 rJ rJ rJ rJ (fun g => ?_) | refine st_slice1T rJ rJ rJ rJ (fun g => ?_) | refine st_makeT rJ rJ rJ rJ rE rJ rO rO (fun v o => ?_) | (apply exlCopy; first | refine st_copyW _ rJ rE rK rE rD rJ rE rJ (fun zs hzs => ?_) | refine st_copyS _ rJ rJ rK rE rD rJ rE rJ rO rO (fun zs hzs => ?_)) | refine st_sliceB rJ rJ rJ rJ rJ rJ rJ rL rE rE rJ (fun g => ?_) | refine st_slice1I rJ rJ rJ rJ rJ rJ (fun g => ?_) | refine st_slice1B rJ rJ rJ rJ rJ rJ rO rO (fun g => ?_) | refine st_slice1S rJ rJ rJ rJ rJ rJ (fun g => ?_) | refine st_slice2B rJ rJ rJ rJ rJ rJ rJ rO rO rO rO (fun g => ?_) | (apply exlConv; first | refine st_bytes rJ rJ rJ rJ rJ rO (fun v o => ?_) | refine st_mark _ rJ rJ rK rJ rJ rJ ?_) | refine st_clear _ (0 : UInt8) rJ rK rJ rJ rJ rJ rJ rO ?_ | refine st_clearT _ rJ rK rO rJ rJ rO rE ?_ | (apply exlAppend; first | refine st_app0 rJ rJ rE rD rJ rE rJ rE rJ rJ rJ rO (fun v o => ?_) | refine st_app _ rJ rE rK rE rD rJ rE rJ rE rJ rJ rJ rO (fun v o => ?_) | refine st_shift _ rJ rJ rJ rK rO rJ rJ rJ rO rO rE ?_)) | (refine Ex.cond_d rJ (fun h => ?_) (fun h => ?_) <;> try (exfalso; omega))))
  obtain rfl : k = key.length := by omega
  rw [List.take_length] at *
  refine Ex.loopS [7, 8] (fun m vs => ∃ k : Nat, k ≤ value.length ∧ m = value.length - k ∧ vs = [.int .i64 (sumB (value.take k)), .int .i64 k]) value.length ?_ ?_
  · exact ⟨0, by omega, by omega, rfl⟩
  rintro m vs g1 ⟨k, hk, rfl, rfl⟩
  have hb2 := sumB_bd (value.take k)
  simp only [List.length_take] at hb2
  by_cases hlt : k < value.length
  · have := value[k].toNat_lt
    (repeat' (first | refine ExL.val rJ rJ rJ rV ?_ | (first | refine Ex.seq ?_ | refine Ex.region ?_ | refine ExL.nil ?_ | refine thn_n ?_ | refine Ex.cond_t rJ ?_ | refine Ex.cond_f rJ ?_ | refine Ex.skip ?_ | refine Ex.block ?_ | refine Ex.exit ?_ | refine Ex.ret ?_ | refine thn_exit ?_ | refine thn_ret ?_ | refine inb_n ?_ | refine inb_hit rJ ?_ | refine inb_miss rJ ?_ | refine inb_ret ?_ | refine rnd_exit ?_ | refine rnd_ret ?_ | refine meet_ret ?_ | refine meet_exit ?_) | (apply exlGuard; first | refine ExL.gskip rJ rJ rJ rJ rJ rJ ?_ | refine ExL.gtake rJ rJ rJ rJ ?_ | refine ExL.gskipU rJ rJ rJ rJ ?_ | (refine ExL.gsplit rJ rJ rJ (fun h => ?_) (fun h => ?_) <;> try (exfalso; omega))) | (first | refine st_new_ rJ rE (fun g => ?_) | refine st_boxA rJ rJ (fun g => ?_) | refine st_box1 rJ rE rN (fun g => ?_) | (apply exlStore; first | refine st_store1_ _ rJ rK rE rN rJ rJ rE rE ?_ | refine st_storeW_ _ rJ rK rJ rC rJ rJ rJ rE ?_ | refine st_storeR _ rJ rK rJ rE rJ rJ rE ?_ | refine st_storeA_ _ rJ rK rJ rC rJ rJ rJ rE rE ?_ | refine st_storeB _ rJ rJ rO rO rK rJ rO ?_ | refine st_storeG _ rJ rK rE rN rJ rO (fun cs hcs => ?_)) | refine st_slice0 rJ rJ rJ rJ (fun g => ?_) | refine st_slice1T rJ rJ rJ rJ (fun g => ?_) | refine st_makeT rJ rJ rJ rJ rE rJ rO rO (fun v o => ?_) | (apply exlCopy; first | refine st_copyW _ rJ rE rK rE rD rJ rE rJ (fun zs hzs => ?_) | refine st_copyS _ rJ rJ rK rE rD rJ rE rJ rO rO (fun zs hzs => ?_)) | refine st_sliceB rJ rJ rJ rJ rJ rJ rJ rL rE rE rJ (fun g => ?_) | refine st_slice1I rJ rJ rJ rJ rJ rJ (fun g => ?_) | refine st_slice1B rJ rJ rJ rJ rJ rJ rO rO (fun g => ?_) | refine st_slice1S rJ rJ rJ rJ rJ rJ (fun g => ?_) | refine st_slice2B rJ rJ rJ rJ rJ rJ rJ rO rO rO rO (fun g => ?_) | (apply exlConv; first | refine st_bytes rJ rJ rJ rJ rJ rO (fun v o => ?_) | refine st_mark _ rJ rJ rK rJ rJ rJ ?_) | refine st_clear _ (0 : UInt8) rJ rK rJ rJ rJ rJ rJ rO ?_ | refine st_clearT _ rJ rK rO rJ rJ rO rE ?_ | (apply exlAppend; first | refine st_app0 rJ rJ rE rD rJ rE rJ rE rJ rJ rJ rO (fun v o => ?_) | refine st_app _ rJ rE rK rE rD rJ rE rJ rE rJ rJ rJ rO (fun v o => ?_) | refine st_shift _ rJ rJ rJ rK rO rJ rJ rJ rO rO rE ?_)) | (refine Ex.cond_d rJ (fun h => ?_) (fun h => ?_) <;> try (exfalso; omega))))
    exact rnd_n ⟨value.length - (k + 1), _, by omega, Sub.refl _, ⟨k + 1, by omega, rfl, lcons (vint (sumB_succ value k hlt).symm) (lcons (vint (by omega)) rfl)⟩, rfl⟩
  (repeat' (first | refine ExL.val rJ rJ rJ rV ?_ | (first | refine Ex.seq ?_ | refine Ex.region ?_ | refine ExL.nil ?_ | refine thn_n ?_ | refine Ex.cond_t rJ ?_ | refine Ex.cond_f rJ ?_ | refine Ex.skip ?_ | refine Ex.block ?_ | refine Ex.exit ?_ | refine Ex.ret ?_ | refine thn_exit ?_ | refine thn_ret ?_ | refine inb_n ?_ | refine inb_hit rJ ?_ | refine inb_miss rJ ?_ | refine inb_ret ?_ | refine rnd_exit ?_ | refine rnd_ret ?_ | refine meet_ret ?_ | refine meet_exit ?_) | (apply exlGuard; first | refine ExL.gskip rJ rJ rJ rJ rJ rJ ?_ | refine ExL.gtake rJ rJ rJ rJ ?_ | refine ExL.gskipU rJ rJ rJ rJ ?_ | (refine ExL.gsplit rJ rJ rJ (fun h => ?_) (fun h => ?_) <;> try (exfalso; omega))) | (first | refine st_new_ rJ rE (fun g => ?_) | refine st_boxA rJ rJ (fun g => ?_) | refine st_box1 rJ rE rN (fun g => ?_) | (apply exlStore; first | refine st_store1_ _ rJ rK rE rN rJ rJ rE rE ?_ | refine st_storeW_ _ rJ rK rJ rC rJ rJ rJ rE ?_ | refine st_storeR _ rJ rK rJ rE rJ rJ rE ?_ | refine st_storeA_ _ rJ rK rJ rC rJ rJ rJ rE rE ?_ | refine st_storeB _ rJ rJ rO rO rK rJ rO ?_ | refine st_storeG _ rJ rK rE rN rJ rO (fun cs hcs => ?_)) | refine st_slice0 rJ rJ rJ rJ (fun g => ?_) | refine st_slice1T rJ rJ rJ rJ (fun g => ?_) | refine st_makeT rJ rJ rJ rJ rE rJ rO rO (fun v o => ?_) | (apply exlCopy; first | refine st_copyW _ rJ rE rK rE rD rJ rE rJ (fun zs hzs => ?_) | refine st_copyS _ rJ rJ rK rE rD rJ rE rJ rO rO (fun zs hzs => ?_)) | refine st_sliceB rJ rJ rJ rJ rJ rJ rJ rL rE rE rJ (fun g => ?_) | refine st_slice1I rJ rJ rJ rJ rJ rJ (fun g => ?_) | refine st_slice1B rJ rJ rJ rJ rJ rJ rO rO (fun g => ?_) | refine st_slice1S rJ rJ rJ rJ rJ rJ (fun g => ?_) | refine st_slice2B rJ rJ rJ rJ rJ rJ rJ rO rO rO rO (fun g => ?_) | (apply exlConv; first | refine st_bytes rJ rJ rJ rJ rJ rO (fun v o => ?_) | refine st_mark _ rJ rJ rK rJ rJ rJ ?_) | refine st_clear _ (0 : UInt8) rJ rK rJ rJ rJ rJ rJ rO ?_ | refine st_clearT _ rJ rK rO rJ rJ rO rE ?_ | (apply exlAppend; first | refine st_app0 rJ rJ rE rD rJ rE rJ rE rJ rJ rJ rO (fun v o => ?_) | refine st_app _ rJ rE rK rE rD rJ rE rJ rE rJ rJ rJ rO (fun v o => ?_) | refine st_shift _ rJ rJ rJ rK rO rJ rJ rJ rO rO rE ?_)) | (refine Ex.cond_d rJ (fun h => ?_) (fun h => ?_) <;> try (exfalso; omega))))
  obtain rfl : k = value.length := by omega
  rw [List.take_length] at *
  have hm3 : sumB key % 3 = 0 ∨ sumB key % 3 = 1 ∨ sumB key % 3 = 2 := by omega
  have hm4 : sumB value % 4 = 0 ∨ sumB value % 4 = 1 ∨ sumB value % 4 = 2 ∨ sumB value % 4 = 3 := by omega
  have hk2 : 2 < 1 + (kind.tmod 5 + 5) % 5 ∨ ¬ 2 < 1 + (kind.tmod 5 + 5) % 5 := by omega
  rcases hm3 with hm3 | hm3 | hm3
  all_goals
    (refine Ex.mixA 12 _ rfl (by kernel_rfl) (Fac.refl _) ?_; (repeat' (first | refine mx_val rJ rJ rJ rV ?_ | refine mx_nil ?_ | (first | refine mx_gskip rJ rJ rJ rJ ?_ | refine mx_gtake rJ rJ rJ ?_ | refine mx_gskipU rJ rJ rJ ?_) | (first | refine mx_slice1T rJ rJ rJ rJ (fun g => ?_) | refine mx_slice1I rJ rJ rJ rJ rJ rJ (fun g => ?_) | refine mx_slice1B rJ rJ rJ rJ rJ rJ rO rO (fun g => ?_) | refine mx_slice1S rJ rJ rJ rJ rJ rJ (fun g => ?_) | refine mx_slice2B rJ rJ rJ rJ rJ rJ rJ rO rO rO rO (fun g => ?_) | refine mx_alloc rJ rE (fun g => ?_) | refine mx_boxA rJ rJ (fun g => ?_) | refine mx_slice0 rJ rJ rJ rJ (fun g => ?_)) | (refine mx_gsplit rJ rJ rJ (fun h => ?_) (fun h => ?_) <;> try (exfalso; omega)) | (refine mx_act rJ rJ rJ ?_; (first | (apply exlCopy; first | refine st_copyW _ rJ rE rK rE rD rJ rE rJ (fun zs hzs => ?_) | refine st_copyS _ rJ rJ rK rE rD rJ rE rJ rO rO (fun zs hzs => ?_)) | (apply exlAppend; first | refine st_app0 rJ rJ rE rD rJ rE rJ rE rJ rJ rJ rO (fun v o => ?_) | refine st_app _ rJ rE rK rE rD rJ rE rJ rE rJ rJ rJ rO (fun v o => ?_) | refine st_shift _ rJ rJ rJ rK rO rJ rJ rJ rO rO rE ?_)); refine ExL.nil ?_; refine mxEnd_n rF ?_))))
    (repeat' (first | refine ExL.val rJ rJ rJ rV ?_ | (first | refine Ex.seq ?_ | refine Ex.region ?_ | refine ExL.nil ?_ | refine thn_n ?_ | refine Ex.cond_t rJ ?_ | refine Ex.cond_f rJ ?_ | refine Ex.skip ?_ | refine Ex.block ?_ | refine Ex.exit ?_ | refine Ex.ret ?_ | refine thn_exit ?_ | refine thn_ret ?_ | refine inb_n ?_ | refine inb_hit rJ ?_ | refine inb_miss rJ ?_ | refine inb_ret ?_ | refine rnd_exit ?_ | refine rnd_ret ?_ | refine meet_ret ?_ | refine meet_exit ?_) | (apply exlGuard; first | refine ExL.gskip rJ rJ rJ rJ rJ rJ ?_ | refine ExL.gtake rJ rJ rJ rJ ?_ | refine ExL.gskipU rJ rJ rJ rJ ?_ | (refine ExL.gsplit rJ rJ rJ (fun h => ?_) (fun h => ?_) <;> try (exfalso; omega))) | (first | refine st_new_ rJ rE (fun g => ?_) | refine st_boxA rJ rJ (fun g => ?_) | refine st_box1 rJ rE rN (fun g => ?_) | (apply exlStore; first | refine st_store1_ _ rJ rK rE rN rJ rJ rE rE ?_ | refine st_storeW_ _ rJ rK rJ rC rJ rJ rJ rE ?_ | refine st_storeR _ rJ rK rJ rE rJ rJ rE ?_ | refine st_storeA_ _ rJ rK rJ rC rJ rJ rJ rE rE ?_ | refine st_storeB _ rJ rJ rO rO rK rJ rO ?_ | refine st_storeG _ rJ rK rE rN rJ rO (fun cs hcs => ?_)) | refine st_slice0 rJ rJ rJ rJ (fun g => ?_) | refine st_slice1T rJ rJ rJ rJ (fun g => ?_) | refine st_makeT rJ rJ rJ rJ rE rJ rO rO (fun v o => ?_) | (apply exlCopy; first | refine st_copyW _ rJ rE rK rE rD rJ rE rJ (fun zs hzs => ?_) | refine st_copyS _ rJ rJ rK rE rD rJ rE rJ rO rO (fun zs hzs => ?_)) | refine st_sliceB rJ rJ rJ rJ rJ rJ rJ rL rE rE rJ (fun g => ?_) | refine st_slice1I rJ rJ rJ rJ rJ rJ (fun g => ?_) | refine st_slice1B rJ rJ rJ rJ rJ rJ rO rO (fun g => ?_) | refine st_slice1S rJ rJ rJ rJ rJ rJ (fun g => ?_) | refine st_slice2B rJ rJ rJ rJ rJ rJ rJ rO rO rO rO (fun g => ?_) | (apply exlConv; first | refine st_bytes rJ rJ rJ rJ rJ rO (fun v o => ?_) | refine st_mark _ rJ rJ rK rJ rJ rJ ?_) | refine st_clear _ (0 : UInt8) rJ rK rJ rJ rJ rJ rJ rO ?_ | refine st_clearT _ rJ rK rO rJ rJ rO rE ?_ | (apply exlAppend; first | refine st_app0 rJ rJ rE rD rJ rE rJ rE rJ rJ rJ rO (fun v o => ?_) | refine st_app _ rJ rE rK rE rD rJ rE rJ rE rJ rJ rJ rO (fun v o => ?_) | refine st_shift _ rJ rJ rJ rK rO rJ rJ rJ rO rO rE ?_)) | (refine Ex.cond_d rJ (fun h => ?_) (fun h => ?_) <;> try (exfalso; omega))))
  all_goals by_cases hq : 2 < 1 + (kind.tmod 5 + 5) % 5
  all_goals first | (exfalso; omega) | skip
  all_goals first | ((first | refine fin_ret rS ?_ | refine fin_norm rS ?_); exact ⟨_, rB, by simp only [Ed.fit, Ed.val, Ed.cells, hm3, if_neg hq]; rfl, rfl⟩) | skip
  all_goals
    rcases hm4 with hm4 | hm4 | hm4 | hm4 <;> rw [hm4]
    all_goals
      (repeat' (first | refine ExL.val rJ rJ rJ rV ?_ | (first | refine Ex.seq ?_ | refine Ex.region ?_ | refine ExL.nil ?_ | refine thn_n ?_ | refine Ex.cond_t rJ ?_ | refine Ex.cond_f rJ ?_ | refine Ex.skip ?_ | refine Ex.block ?_ | refine Ex.exit ?_ | refine Ex.ret ?_ | refine thn_exit ?_ | refine thn_ret ?_ | refine inb_n ?_ | refine inb_hit rJ ?_ | refine inb_miss rJ ?_ | refine inb_ret ?_ | refine rnd_exit ?_ | refine rnd_ret ?_ | refine meet_ret ?_ | refine meet_exit ?_) | (apply exlGuard; first | refine ExL.gskip rJ rJ rJ rJ rJ rJ ?_ | refine ExL.gtake rJ rJ rJ rJ ?_ | refine ExL.gskipU rJ rJ rJ rJ ?_ | (refine ExL.gsplit rJ rJ rJ (fun h => ?_) (fun h => ?_) <;> try (exfalso; omega))) | (first | refine st_new_ rJ rE (fun g => ?_) | refine st_boxA rJ rJ (fun g => ?_) | refine st_box1 rJ rE rN (fun g => ?_) | (apply exlStore; first | refine st_store1_ _ rJ rK rE rN rJ rJ rE rE ?_ | refine st_storeW_ _ rJ rK rJ rC rJ rJ rJ rE ?_ | refine st_storeR _ rJ rK rJ rE rJ rJ rE ?_ | refine st_storeA_ _ rJ rK rJ rC rJ rJ rJ rE rE ?_ | refine st_storeB _ rJ rJ rO rO rK rJ rO ?_ | refine st_storeG _ rJ rK rE rN rJ rO (fun cs hcs => ?_)) | refine st_slice0 rJ rJ rJ rJ (fun g => ?_) | refine st_slice1T rJ rJ rJ rJ (fun g => ?_) | refine st_makeT rJ rJ rJ rJ rE rJ rO rO (fun v o => ?_) | (apply exlCopy; first | refine st_copyW _ rJ rE rK rE rD rJ rE rJ (fun zs hzs => ?_) | refine st_copyS _ rJ rJ rK rE rD rJ rE rJ rO rO (fun zs hzs => ?_)) | refine st_sliceB rJ rJ rJ rJ rJ rJ rJ rL rE rE rJ (fun g => ?_) | refine st_slice1I rJ rJ rJ rJ rJ rJ (fun g => ?_) | refine st_slice1B rJ rJ rJ rJ rJ rJ rO rO (fun g => ?_) | refine st_slice1S rJ rJ rJ rJ rJ rJ (fun g => ?_) | refine st_slice2B rJ rJ rJ rJ rJ rJ rJ rO rO rO rO (fun g => ?_) | (apply exlConv; first | refine st_bytes rJ rJ rJ rJ rJ rO (fun v o => ?_) | refine st_mark _ rJ rJ rK rJ rJ rJ ?_) | refine st_clear _ (0 : UInt8) rJ rK rJ rJ rJ rJ rJ rO ?_ | refine st_clearT _ rJ rK rO rJ rJ rO rE ?_ | (apply exlAppend; first | refine st_app0 rJ rJ rE rD rJ rE rJ rE rJ rJ rJ rO (fun v o => ?_) | refine st_app _ rJ rE rK rE rD rJ rE rJ rE rJ rJ rJ rO (fun v o => ?_) | refine st_shift _ rJ rJ rJ rK rO rJ rJ rJ rO rO rE ?_)) | (refine Ex.cond_d rJ (fun h => ?_) (fun h => ?_) <;> try (exfalso; omega))))
      skip
      (first | refine fin_ret rS ?_ | refine fin_norm rS ?_)
      exact ⟨_, rB, by simp only [Ed.fit, Ed.val, Ed.cells, hm3, hm4, if_pos hq, ExtLaws.i64_and1]; rfl, rfl⟩
end Go.Proofs.Ytcclbplccnaonaa
/- An edit that may be, made, may be. No condition. -/
namespace Go.Proofs.Ytcclbplccnaonaa
open Go.RowKit
set_option linter.unusedSimpArgs false
set_option linter.unusedVariables false
theorem fit_key (e : Ed) : e.fit.key = [97, 110, 110] ∨ e.fit.key = [98, 111, 98] ∨ e.fit.key = [99, 121] := by
  show fitKey _ = _ ∨ fitKey _ = _ ∨ fitKey _ = _
  unfold fitKey
  split
  · simp
  · split <;> simp
theorem fit_value (e : Ed) : e.fit.value = [] ∨ e.fit.value = [49] ∨ e.fit.value = [116, 119, 111] ∨ e.fit.value = [0, 255] ∨ e.fit.value = [116, 119, 101, 108, 118, 101, 32, 98, 121, 116, 101, 115] := by
  simp only [Ed.fit]
  split
  · unfold fitValue
    split
    · simp
    · split
      · simp
      · split <;> simp
  · simp
theorem fit_err (e : Ed) : e.fit.err = 0 := by
  have hk := fit_key e
  have hke : keyE e.fit.key = 0 := by rcases hk with h | h | h <;> rw [h] <;> decide
  have h1 := tmod5 e.kind
  have h2 : 0 ≤ (e.kind.tmod 5 + 5) % 5 ∧ (e.kind.tmod 5 + 5) % 5 < 5 := by omega
  have hkd : e.fit.kind = 1 + (e.kind.tmod 5 + 5) % 5 := rfl
  unfold Ed.err
  rw [if_neg (by omega), hke, if_neg (by omega)]
  by_cases h3 : 2 < 1 + (e.kind.tmod 5 + 5) % 5
  · rw [if_neg (by omega)]
    have hl : e.fit.label = e.label % 2 := by simp only [Ed.fit]; rw [if_pos h3]
    have hv : e.fit.value = fitValue (sumB e.value % 4) := by simp only [Ed.fit]; rw [if_pos h3]
    have hle : labelE e.fit.label = 0 := by rw [hl]; unfold labelE; rw [if_pos (by omega)]
    rw [hle, if_neg (by omega), hv]
    unfold fitValue
    split
    · decide
    · split
      · decide
      · split <;> decide
  · rw [if_pos (by omega)]
    have hl : e.fit.label = 0 := by simp only [Ed.fit]; rw [if_neg h3]
    have hv : e.fit.value = [] := by simp only [Ed.fit]; rw [if_neg h3]
    rw [hl, if_neg (by omega), hv, if_neg (by simp)]
end Go.Proofs.Ytcclbplccnaonaa
/- Pasts, in plain words: marks, clocks, right, ordered; what is delivered. No condition. -/
namespace Go.Proofs.Ytcclbplccnaonaa
open Go.RowKit
set_option linter.unusedSimpArgs false
set_option linter.unusedVariables false
def marks (l : List Ev) : List Mk := l.map Ev.mk_
theorem mem_marks {l : List Ev} {k : Mk} : k ∈ marks l ↔ ∃ a ∈ l, a.mk_ = k := by simp [marks]
theorem mem_marks_of {l : List Ev} {a : Ev} (h : a ∈ l) : (⟨a.r, a.n⟩ : Mk) ∈ marks l := mem_marks.2 ⟨a, h, rfl⟩
theorem marks_app (l s : List Ev) : marks (l ++ s) = marks l ++ marks s := by simp [marks]
theorem Dst.iff {l : List Ev} : Dst l ↔ (marks l).Nodup := by unfold Dst marks List.Nodup; rw [List.pairwise_map]
theorem Dst.same {l : List Ev} (h : Dst l) {a b : Ev} (ha : a ∈ l) (hb : b ∈ l) (e : a.mk_ = b.mk_) : a = b := by
  obtain ⟨i, hi, rfl⟩ := List.getElem_of_mem ha
  obtain ⟨j, hj, rfl⟩ := List.getElem_of_mem hb
  have := h.inj hi hj e
  subst this
  rfl
theorem mk_of {a : Ev} {r n : Int} (h : a.mk_ = ⟨r, n⟩) : a.r = r ∧ a.n = n := by
  have h1 : a.r = r := congrArg Mk.r h
  have h2 : a.n = n := congrArg Mk.n h
  exact ⟨h1, h2⟩
/-- n is the mark up to which replica r's marks stand without a gap, from b on. -/
def UpTo (l : List Ev) (r b n : Int) : Prop := b ≤ n ∧ (∀ k, b < k → k ≤ n → (⟨r, k⟩ : Mk) ∈ marks l) ∧ (⟨r, n + 1⟩ : Mk) ∉ marks l
theorem UpTo.unique {l : List Ev} {r b n m : Int} (h : UpTo l r b n) (k : UpTo l r b m) : n = m := by
  obtain ⟨h1, h2, h3⟩ := h
  obtain ⟨k1, k2, k3⟩ := k
  rcases Int.lt_trichotomy n m with hlt | he | hlt
  · exact absurd (k2 (n + 1) (by omega) (by omega)) h3
  · exact he
  · exact absurd (h2 (m + 1) (by omega) (by omega)) k3
theorem marks_bound (l : List Ev) : ∃ B : Int, ∀ e ∈ l, e.n ≤ B := by
  induction l with
  | nil => exact ⟨0, by simp⟩
  | cons a l ih =>
    obtain ⟨B, hB⟩ := ih
    refine ⟨max a.n B, fun e he => ?_⟩
    rcases List.mem_cons.1 he with rfl | he
    · omega
    · have := hB e he; omega
theorem upTo_ex (l : List Ev) (r b : Int) : ∃ k : Nat, (⟨r, b + k + 1⟩ : Mk) ∉ marks l := by
  obtain ⟨B, hB⟩ := marks_bound l
  refine ⟨(B - b).toNat, fun h => ?_⟩
  obtain ⟨a, ha, he⟩ := mem_marks.1 h
  have h2 := (mk_of he).2
  have := hB a ha
  omega
noncomputable def upTo (l : List Ev) (r b : Int) : Int := b + (leastOf fun k : Nat => (⟨r, b + k + 1⟩ : Mk) ∉ marks l : Nat)
theorem upTo_spec (l : List Ev) (r b : Int) : UpTo l r b (upTo l r b) := by
  obtain ⟨k, hk⟩ := upTo_ex l r b
  have h1 := leastOf_spec (p := fun k : Nat => (⟨r, b + k + 1⟩ : Mk) ∉ marks l) hk
  unfold upTo
  refine ⟨by omega, fun j hj1 hj2 => ?_, h1.1⟩
  refine Classical.byContradiction fun hc => ?_
  have h2 := leastOf_spec (p := fun k : Nat => (⟨r, b + k + 1⟩ : Mk) ∉ marks l) (m := (j - b - 1).toNat) (by
    rw [show b + ((j - b - 1).toNat : Int) + 1 = j by omega]; exact hc)
  omega
def clk5 (f : Nat → Int) : Clk := ⟨f 0, f 1, f 2, f 3, f 4⟩
theorem clk5_get (f : Nat → Int) (i : Nat) (h : i < 5) : (clk5 f).get i = f i := by
  match i, h with
  | 0, _ => rfl
  | 1, _ => rfl
  | 2, _ => rfl
  | 3, _ => rfl
  | 4, _ => rfl
/-- c, moved on as far as there are marks without a gap. -/
noncomputable def reachC (l : List Ev) (c : Clk) : Clk := clk5 fun (i : Nat) => upTo l i (c.get i)
noncomputable def clockP (l : List Ev) : Clk := reachC l Clk.zero
theorem zero_get (i : Nat) : Clk.zero.get i = 0 := by
  match i with
  | 0 => rfl
  | 1 => rfl
  | 2 => rfl
  | 3 => rfl
  | 4 => rfl
  | i + 5 => simp [Clk.get]
theorem reachC_upTo (l : List Ev) (c : Clk) {i : Nat} (h : i < 5) : UpTo l i (c.get i) ((reachC l c).get i) := by
  unfold reachC
  rw [clk5_get _ _ h]
  exact upTo_spec ..
theorem reachC_eq {l : List Ev} {c d : Clk} (h : ∀ i : Nat, i < 5 → UpTo l i (c.get i) (d.get i)) : reachC l c = d :=
  Clk.ext_get fun j hj => (reachC_upTo l c hj).unique (h j hj)
theorem clockP_upTo (l : List Ev) {i : Nat} (h : i < 5) : UpTo l i 0 ((clockP l).get i) := by
  have := reachC_upTo l Clk.zero h
  rwa [zero_get] at this
theorem clockP_eq {l : List Ev} {d : Clk} (h : ∀ i : Nat, i < 5 → UpTo l i 0 (d.get i)) : clockP l = d :=
  reachC_eq fun i hi => by rw [zero_get]; exact h i hi
theorem UpTo.congr {l s : List Ev} {r b n : Int} (h : ∀ k : Int, (⟨r, k⟩ : Mk) ∈ marks l ↔ (⟨r, k⟩ : Mk) ∈ marks s) (u : UpTo l r b n) : UpTo s r b n :=
  ⟨u.1, fun k h1 h2 => (h k).1 (u.2.1 k h1 h2), fun hc => u.2.2 ((h _).2 hc)⟩
theorem clockP_congr {l s : List Ev} (h : ∀ k, k ∈ marks l ↔ k ∈ marks s) : clockP l = clockP s :=
  clockP_eq fun i hi => (clockP_upTo s hi).congr fun k => (h _).symm
theorem clockP_pos (l : List Ev) {i : Nat} (h : i < 5) : 0 ≤ (clockP l).get i := (clockP_upTo l h).1
theorem has_clockP {l : List Ev} {r n : Int} (h : (clockP l).has r n = true) : (⟨r, n⟩ : Mk) ∈ marks l := by
  obtain ⟨h0, h1, h2, h3⟩ := (Clk.has_iff _ _ _).1 h
  have := (clockP_upTo l (i := r.toNat) (by omega)).2.1 n (by omega) h3
  rwa [show ((r.toNat : Nat) : Int) = r by omega] at this
theorem le_clockP {c : Clk} {l : List Ev} : c.le (clockP l) = true ↔ ∀ r n, c.has r n = true → (⟨r, n⟩ : Mk) ∈ marks l := by
  constructor
  · intro h r n hh
    exact has_clockP (has_mono h hh)
  · intro h
    refine (Clk.le_iff _ _).2 fun j hj => ?_
    refine Classical.byContradiction fun hc => ?_
    have hp := clockP_pos l hj
    refine (clockP_upTo l hj).2.2 (h j _ ((Clk.has_iff _ _ _).2 ⟨by omega, by omega, by omega, ?_⟩))
    rw [show ((j : Int)).toNat = j by omega]
    omega
/-- To move on from a place on the way comes to the same. -/
theorem reachC_mid {l : List Ev} {c : Clk} (h0 : ∀ i, i < 5 → 0 ≤ c.get i) (h : c.le (clockP l) = true) : reachC l c = clockP l :=
  reachC_eq fun i hi => by
    have h1 := clockP_upTo l hi
    have h2 := (Clk.le_iff _ _).1 h i hi
    have h3 := h0 i hi
    exact ⟨h2, fun k hk1 hk2 => h1.2.1 k (by omega) hk2, h1.2.2⟩
structure Ev.May (e : Ev) : Prop where
  r : 0 ≤ e.r ∧ e.r < 5
  n : 1 ≤ e.n ∧ e.n ≤ 1048576
  h : 1 ≤ e.h ∧ e.h ≤ 16777216
  c : ∀ i, i < 5 → 0 ≤ e.c.get i ∧ e.c.get i ≤ 1048576
  own : e.c.get e.r.toNat = e.n - 1
  ed : e.ed.err = 0
/-- How high one is that has c of l: above the highest of these; 1, if there is none. -/
def HighIs (l : List Ev) (c : Clk) (h : Int) : Prop := (∀ a ∈ l, c.has a.r a.n = true → a.h < h) ∧ ((h = 1 ∧ ∀ a ∈ l, c.has a.r a.n = false) ∨ ∃ a ∈ l, c.has a.r a.n = true ∧ a.h + 1 = h)
theorem HighIs.unique {l : List Ev} {c : Clk} {h k : Int} (x : HighIs l c h) (y : HighIs l c k) : h = k := by
  obtain ⟨x1, x2⟩ := x
  obtain ⟨y1, y2⟩ := y
  rcases x2 with ⟨rfl, hx⟩ | ⟨a, ha, hac, he⟩
  · rcases y2 with ⟨rfl, _⟩ | ⟨b, hb, hbc, he⟩
    · rfl
    · rw [hx b hb] at hbc; cases hbc
  · rcases y2 with ⟨rfl, hy⟩ | ⟨b, hb, hbc, he2⟩
    · rw [hy a ha] at hac; cases hac
    · have := y1 a ha hac
      have := x1 b hb hbc
      omega
theorem HighIs.congr {l s : List Ev} {c : Clk} {h : Int} (hls : ∀ a, c.has a.r a.n = true → (a ∈ l ↔ a ∈ s)) (x : HighIs l c h) : HighIs s c h := by
  obtain ⟨x1, x2⟩ := x
  refine ⟨fun a ha hc => x1 a ((hls a hc).2 ha) hc, ?_⟩
  rcases x2 with ⟨rfl, hx⟩ | ⟨a, ha, hac, he⟩
  · refine .inl ⟨rfl, fun a ha => ?_⟩
    cases hh : c.has a.r a.n
    · rfl
    · have := hx a ((hls a hh).2 ha)
      rw [hh] at this; cases this
  · exact .inr ⟨a, (hls a hac).1 ha, hac, he⟩
theorem heightP_is (l : List Ev) (c : Clk) : HighIs l c (heightP l c) := by
  have key : ∀ l : List Ev, ((l.foldl (heightS c) (0, false)).2 = false ∧ (l.foldl (heightS c) (0, false)).1 = 0 ∧ ∀ a ∈ l, c.has a.r a.n = false) ∨
      ((l.foldl (heightS c) (0, false)).2 = true ∧ (∀ a ∈ l, c.has a.r a.n = true → a.h ≤ (l.foldl (heightS c) (0, false)).1) ∧ ∃ a ∈ l, c.has a.r a.n = true ∧ a.h = (l.foldl (heightS c) (0, false)).1) := by
    intro l
    rw [← List.reverse_reverse l]
    generalize l.reverse = m
    induction m with
    | nil => exact .inl ⟨rfl, rfl, by simp⟩
    | cons x m ih =>
      rw [List.reverse_cons, List.foldl_append]
      simp only [List.foldl_cons, List.foldl_nil]
      generalize m.reverse.foldl (heightS c) (0, false) = s at ih ⊢
      cases hx : c.has x.r x.n
      · have hs : heightS c s x = s := if_neg (by rw [hx]; simp)
        rw [hs]
        rcases ih with ⟨i1, i2, i3⟩ | ⟨i1, i2, a, ha, i3, i4⟩
        · refine .inl ⟨i1, i2, fun a ha => ?_⟩
          rcases List.mem_append.1 ha with h | h
          · exact i3 a h
          · simp only [List.mem_singleton] at h; subst h; exact hx
        · refine .inr ⟨i1, fun b hb hbc => ?_, a, List.mem_append_left _ ha, i3, i4⟩
          rcases List.mem_append.1 hb with h | h
          · exact i2 b h hbc
          · simp only [List.mem_singleton] at h; subst h; rw [hx] at hbc; cases hbc
      · right
        rcases ih with ⟨i1, i2, i3⟩ | ⟨i1, i2, a, ha, i3, i4⟩
        · have hs : heightS c s x = (x.h, true) := if_pos ⟨hx, .inl i1⟩
          rw [hs]
          refine ⟨rfl, fun b hb hbc => ?_, x, by simp, hx, rfl⟩
          rcases List.mem_append.1 hb with h | h
          · rw [i3 b h] at hbc; cases hbc
          · simp only [List.mem_singleton] at h; subst h; exact Int.le_refl _
        · by_cases hg : s.1 < x.h
          · have hs : heightS c s x = (x.h, true) := if_pos ⟨hx, .inr hg⟩
            rw [hs]
            refine ⟨rfl, fun b hb hbc => ?_, x, by simp, hx, rfl⟩
            rcases List.mem_append.1 hb with h | h
            · have := i2 b h hbc; simp only; omega
            · simp only [List.mem_singleton] at h; subst h; exact Int.le_refl _
          · have hs : heightS c s x = s := if_neg (by rintro ⟨_, h | h⟩; rw [i1] at h; cases h; exact hg h)
            rw [hs]
            refine ⟨i1, fun b hb hbc => ?_, a, List.mem_append_left _ ha, i3, i4⟩
            rcases List.mem_append.1 hb with h | h
            · exact i2 b h hbc
            · simp only [List.mem_singleton] at h; subst h; omega
  unfold heightP
  rcases key l with ⟨_, k2, k3⟩ | ⟨_, k2, a, ha, k3, k4⟩
  · rw [k2]
    exact ⟨fun a ha hc => (by rw [k3 a ha] at hc; cases hc), .inl ⟨rfl, k3⟩⟩
  · exact ⟨fun b hb hc => (by have := k2 b hb hc; omega), .inr ⟨a, ha, k3, by omega⟩⟩
/-- What may be a past. -/
structure RightQ (l : List Ev) : Prop where
  may : ∀ e ∈ l, e.May
  dst : Dst l
  all : ∀ e ∈ l, ∀ r n, e.c.has r n = true → ∃ a ∈ l, a.mk_ = ⟨r, n⟩ ∧ a.c.le e.c = true
  high : ∀ e ∈ l, HighIs l e.c e.h
/-- It, as the code asks. -/
def RightP (l : List Ev) : Prop := (∀ e ∈ l, e.May) ∧ Dst l ∧ ∀ e ∈ l, e.c.le (clockP l) = true ∧ e.h = heightP l e.c ∧ ∀ a ∈ l, e.c.has a.r a.n = true → a.c.le e.c = true
theorem RightQ.iff {l : List Ev} : RightP l ↔ RightQ l := by
  constructor
  · rintro ⟨h1, h2, h3⟩
    refine ⟨h1, h2, fun e he r n hh => ?_, fun e he => ?_⟩
    · obtain ⟨a, ha, e1⟩ := mem_marks.1 (le_clockP.1 (h3 e he).1 r n hh)
      obtain ⟨e2, e3⟩ := mk_of e1
      exact ⟨a, ha, e1, (h3 e he).2.2 a ha (by rw [e2, e3]; exact hh)⟩
    · rw [(h3 e he).2.1]; exact heightP_is l e.c
  · rintro ⟨h1, h2, h3, h4⟩
    refine ⟨h1, h2, fun e he => ⟨le_clockP.2 fun r n hh => ?_, (h4 e he).unique (heightP_is l e.c), fun a ha hh => ?_⟩⟩
    · obtain ⟨a, ha, e1, _⟩ := h3 e he r n hh
      exact mem_marks.2 ⟨a, ha, e1⟩
    · obtain ⟨b, hb, e1, h5⟩ := h3 e he _ _ hh
      have := h2.same hb ha e1
      subst this
      exact h5
theorem RightQ.nil : RightQ [] := ⟨by simp, List.Pairwise.nil, by simp, by simp⟩
theorem RightQ.trans {l : List Ev} (h : RightQ l) {a e : Ev} (he : e ∈ l) (ha : a ∈ l) (hh : e.c.has a.r a.n = true) : a.c.le e.c = true := (RightQ.iff.2 h).2.2 e he |>.2.2 a ha hh
theorem RightQ.lt {l : List Ev} (h : RightQ l) {a e : Ev} (he : e ∈ l) (ha : a ∈ l) (hh : e.c.has a.r a.n = true) : a.h < e.h := (h.high e he).1 a ha hh
theorem May.irr {e : Ev} (h : e.May) : e.c.has e.r e.n = false := Clk.has_f fun k => by have := h.own; omega
/-- Some events of a right past, and with each all that is below it, are one. -/
theorem RightQ.sub {w s : List Ev} (h : RightQ w) (hd : Dst s) (hs : ∀ e ∈ s, e ∈ w) (hc : ∀ e ∈ s, ∀ a ∈ w, e.c.has a.r a.n = true → a ∈ s) : RightQ s where
  may := fun e he => h.may e (hs e he)
  dst := hd
  all := fun e he r n hh => by
    obtain ⟨a, ha, e1, h2⟩ := h.all e (hs e he) r n hh
    obtain ⟨e2, e3⟩ := mk_of e1
    exact ⟨a, hc e he a ha (by rw [e2, e3]; exact hh), e1, h2⟩
  high := fun e he => (h.high e (hs e he)).congr fun a hh => ⟨fun ha => hc e he a ha hh, fun ha => hs a ha⟩
theorem RightQ.has_iff {l : List Ev} (h : RightQ l) {r n : Int} : (clockP l).has r n = true ↔ (⟨r, n⟩ : Mk) ∈ marks l := by
  refine ⟨has_clockP, fun hm => ?_⟩
  obtain ⟨a, ha, e⟩ := mem_marks.1 hm
  obtain ⟨e1, e2⟩ := mk_of e
  have hy := h.may a ha
  have h1 := (RightQ.iff.2 h).2.2 a ha |>.1
  have hr := hy.r
  have h2 := (Clk.le_iff _ _).1 h1 a.r.toNat (by omega)
  rw [hy.own] at h2
  have hn := hy.n
  refine (Clk.has_iff _ _ _).2 ⟨by omega, by omega, by omega, ?_⟩
  refine Classical.byContradiction fun hc => ?_
  have h3 := (clockP_upTo l (i := a.r.toNat) (by omega)).2.2
  rw [e1] at h2 h3
  rw [show (clockP l).get r.toNat + 1 = n by omega, show ((r.toNat : Nat) : Int) = r by omega] at h3
  exact h3 hm
/-- Each event stands behind what is below it. -/
def OrdQ (l : List Ev) : Prop := ∀ l1 e l2, l = l1 ++ e :: l2 → ∀ r n, e.c.has r n = true → (⟨r, n⟩ : Mk) ∈ marks l1
/-- It, as the code asks. -/
def OrdP (l : List Ev) : Prop := ∀ i (h : i < l.length), (l[i]'h).c.le (clockP (l.take i)) = true
theorem OrdQ.iff {l : List Ev} : OrdP l ↔ OrdQ l := by
  constructor
  · rintro h l1 e l2 rfl r n hh
    have := h l1.length (by simp)
    rw [List.take_left] at this
    refine le_clockP.1 this r n ?_
    simpa using hh
  · intro h i hi
    refine le_clockP.2 fun r n hh => h (l.take i) _ (l.drop (i + 1)) ?_ r n hh
    rw [List.getElem_cons_drop, List.take_append_drop]
theorem OrdQ.nil : OrdQ [] := fun l1 e l2 h => by simp at h
theorem OrdQ.pre {l s : List Ev} (h : OrdQ (l ++ s)) : OrdQ l := by
  rintro l1 e l2 rfl r n hh
  exact h l1 e (l2 ++ s) (by simp) r n hh
theorem OrdQ.take {l : List Ev} (h : OrdQ l) (k : Nat) : OrdQ (l.take k) := OrdQ.pre (s := l.drop k) (by rwa [List.take_append_drop])
theorem OrdQ.snoc {l : List Ev} {e : Ev} (h : OrdQ l) (he : ∀ r n, e.c.has r n = true → (⟨r, n⟩ : Mk) ∈ marks l) : OrdQ (l ++ [e]) := by
  intro l1 x l2 hx r n hh
  rcases List.eq_nil_or_concat l2 with rfl | ⟨l3, y, rfl⟩
  · obtain ⟨rfl, h2⟩ := List.append_inj' hx rfl
    simp only [List.cons.injEq, and_true] at h2
    subst h2
    exact he r n hh
  · have h2 : l ++ [e] = (l1 ++ x :: l3) ++ [y] := by rw [hx]; simp
    obtain ⟨h3, _⟩ := List.append_inj' h2 rfl
    exact h l1 x l3 h3 r n hh
theorem OrdQ.last {l : List Ev} {e : Ev} (h : OrdQ (l ++ [e])) : ∀ r n, e.c.has r n = true → (⟨r, n⟩ : Mk) ∈ marks l := h l e [] rfl
theorem OrdQ.filter {w : List Ev} (h : OrdQ w) (p : Ev → Bool) (hp : ∀ e ∈ w, p e = true → ∀ a ∈ w, e.c.has a.r a.n = true → p a = true) : OrdQ (w.filter p) := by
  intro l1 e l2 hx r n hh
  obtain ⟨w1, w2, rfl, rfl, h3⟩ := List.filter_eq_append_iff.1 hx
  obtain ⟨u, v, rfl, h4, h5, _⟩ := List.filter_eq_cons_iff.1 h3
  obtain ⟨a, ha, e1⟩ := mem_marks.1 (h (w1 ++ u) e v (by simp) r n hh)
  obtain ⟨e2, e3⟩ := mk_of e1
  have hpa := hp e (by simp) h5 a (by rcases List.mem_append.1 ha with h | h <;> simp [h]) (by rw [e2, e3]; exact hh)
  rcases List.mem_append.1 ha with h6 | h6
  · exact mem_marks.2 ⟨a, List.mem_filter.2 ⟨h6, hpa⟩, e1⟩
  · exact absurd hpa (h4 a h6)
/-- The first one of which something holds. -/
theorem first_of (P : Ev → Prop) : ∀ w : List Ev, (∃ e ∈ w, P e) → ∃ w1 e w2, w = w1 ++ e :: w2 ∧ P e ∧ ∀ x ∈ w1, ¬ P x
  | [], ⟨e, he, _⟩ => by simp at he
  | a :: w, ⟨e, he, hp⟩ => by
    by_cases ha : P a
    · exact ⟨[], a, w, rfl, ha, by simp⟩
    · have : e ∈ w := by
        rcases List.mem_cons.1 he with rfl | h
        · exact absurd hp ha
        · exact h
      obtain ⟨w1, e, w2, rfl, h2, h3⟩ := first_of P w ⟨e, this, hp⟩
      refine ⟨a :: w1, e, w2, rfl, h2, fun x hx => ?_⟩
      rcases List.mem_cons.1 hx with rfl | hx
      · exact ha
      · exact h3 x hx
/-- Some of w, in an order in which what is below comes first. -/
structure Dlv (w log : List Ev) : Prop where
  sub : ∀ e ∈ log, e ∈ w
  dst : Dst log
  ord : OrdQ log
theorem Dlv.nil (w : List Ev) : Dlv w [] := ⟨by simp, List.Pairwise.nil, OrdQ.nil⟩
theorem Dlv.right {w log : List Ev} (hw : RightQ w) (h : Dlv w log) : RightQ log := hw.sub h.dst h.sub fun e he a ha hh => by
  obtain ⟨l1, l2, rfl⟩ := List.append_of_mem he
  obtain ⟨b, hb, e1⟩ := mem_marks.1 (h.ord l1 e l2 rfl _ _ hh)
  have hbl : b ∈ l1 ++ e :: l2 := List.mem_append_left _ hb
  have := hw.dst.same (h.sub b hbl) ha e1
  subst this
  exact hbl
theorem Dlv.has_iff {w log : List Ev} (hw : RightQ w) (h : Dlv w log) {r n : Int} : (clockP log).has r n = true ↔ (⟨r, n⟩ : Mk) ∈ marks log := (h.right hw).has_iff
theorem Dlv.has_mem {w log : List Ev} (hw : RightQ w) (h : Dlv w log) {e : Ev} (he : e ∈ w) : (clockP log).has e.r e.n = true ↔ e ∈ log := by
  rw [h.has_iff hw]
  constructor
  · intro hm
    obtain ⟨a, ha, e1⟩ := mem_marks.1 hm
    have := hw.dst.same (h.sub a ha) he e1
    subst this
    exact ha
  · exact mem_marks_of
/-- What is ready comes next. -/
theorem Dlv.step {w log : List Ev} (hw : RightQ w) (h : Dlv w log) {e : Ev} (he : e ∈ w) (hr : e.rdy (clockP log)) : Dlv w (log ++ [e]) ∧ clockP (log ++ [e]) = (clockP log).set e.r.toNat e.n := by
  obtain ⟨r0, r1, r2, r3, r4⟩ := hr
  have hno : (⟨e.r, e.n⟩ : Mk) ∉ marks log := fun hm => by
    obtain ⟨_, _, _, h3⟩ := (Clk.has_iff _ _ _).1 ((h.has_iff hw).2 hm)
    omega
  refine ⟨⟨fun x hx => ?_, ?_, h.ord.snoc fun r n hh => (h.has_iff hw).1 (has_mono r4 hh)⟩, ?_⟩
  · rcases List.mem_append.1 hx with hx | hx
    · exact h.sub x hx
    · simp only [List.mem_singleton] at hx; subst hx; exact he
  · refine List.pairwise_append.2 ⟨h.dst, by simp, fun a ha b hb hab => ?_⟩
    simp only [List.mem_singleton] at hb
    subst hb
    refine hno ?_
    have := mem_marks_of ha
    obtain ⟨e1, e2⟩ := mk_of (a := a) (r := b.r) (n := b.n) hab
    rwa [e1, e2] at this
  · refine clockP_eq fun i hi => ?_
    rw [Clk.get_set _ _ _ _ (by omega)]
    have hu := clockP_upTo log hi
    by_cases hie : i = e.r.toNat
    · rw [if_pos hie]
      subst hie
      rw [show ((e.r.toNat : Nat) : Int) = e.r by omega] at hu ⊢
      refine ⟨by omega, fun k h1 h2 => ?_, fun hm => ?_⟩
      · rw [marks_app]
        by_cases hk : k = e.n
        · subst hk
          exact List.mem_append_right _ (by simp [marks, Ev.mk_])
        · exact List.mem_append_left _ (hu.2.1 k h1 (by omega))
      · rw [marks_app] at hm
        rcases List.mem_append.1 hm with hm | hm
        · obtain ⟨_, _, _, h3⟩ := (Clk.has_iff _ _ _).1 ((h.has_iff hw).2 hm)
          omega
        · simp only [marks, List.map_cons, List.map_nil, List.mem_singleton, Ev.mk_, Mk.mk.injEq] at hm
          omega
    · rw [if_neg hie]
      refine hu.congr fun k => ?_
      rw [marks_app]
      constructor
      · exact List.mem_append_left _
      · intro hm
        rcases List.mem_append.1 hm with hm | hm
        · exact hm
        · simp only [marks, List.map_cons, List.map_nil, List.mem_singleton, Ev.mk_, Mk.mk.injEq] at hm
          omega
/-- What is drained is delivered. -/
theorem drain_dlv {w : List Ev} (hw : RightQ w) (c : Clk) (l : List Ev) : Dst l → (∀ e ∈ l, e ∈ w) → ∀ log, Dlv w log → c = clockP log → Dlv w (log ++ (drain c l).1) ∧ (drain c l).2.2 = clockP (log ++ (drain c l).1) := by
  refine drain_induct (motive := fun c l => Dst l → (∀ e ∈ l, e ∈ w) → ∀ log, Dlv w log → c = clockP log → Dlv w (log ++ (drain c l).1) ∧ (drain c l).2.2 = clockP (log ++ (drain c l).1)) (fun c l h _ _ log hl hc => ?_) (fun c l i hi h ih hd hs log hl hc => ?_) c l
  · rw [drain_stop h]
    simp only [List.append_nil]
    exact ⟨hl, hc⟩
  · subst hc
    rw [drain_step hd hi h]
    obtain ⟨h1, h2⟩ := hl.step hw (hs _ (List.getElem_mem hi)) h.2.1
    have := ih (hd.erase i) (fun e he => hs e ((List.eraseIdx_sublist ..).subset he)) _ h1 h2.symm
    simp only [List.append_assoc, List.cons_append, List.nil_append] at this
    exact this
theorem fresh_dst (c : Clk) (X : List Ev) : Dst (freshL c X) := freshL_dst c X [] List.Pairwise.nil
theorem fresh_dlv {w log : List Ev} (hw : RightQ w) (hl : Dlv w log) {X : List Ev} (hX : ∀ e ∈ X, e ∈ w) :
    Dlv w (log ++ (drain (clockP log) (freshL (clockP log) X)).1) ∧ (drain (clockP log) (freshL (clockP log) X)).2.2 = clockP (log ++ (drain (clockP log) (freshL (clockP log) X)).1) :=
  drain_dlv hw _ _ (fresh_dst _ X) (fun e he => hX e (freshL_mem _ X e he)) log hl rfl
end Go.Proofs.Ytcclbplccnaonaa
/- What was drained, drained once more, in plain words. No condition. -/
namespace Go.Proofs.Ytcclbplccnaonaa
open Go.RowKit
set_option linter.unusedSimpArgs false
set_option linter.unusedVariables false
theorem freshL_above {c d : Clk} (h : c.le d = true) (l : List Ev) : freshL d l = (freshL c l).filter fun e => !d.has e.r e.n := by
  have key : ∀ (l acc : List Ev), l.foldl (freshS d) (acc.filter fun e => !d.has e.r e.n) = (l.foldl (freshS c) acc).filter fun e => !d.has e.r e.n := by
    intro l
    induction l with
    | nil => intro acc; rfl
    | cons e l ih =>
      intro acc
      have hs : freshS d (acc.filter fun e => !d.has e.r e.n) e = (freshS c acc e).filter fun e => !d.has e.r e.n := by
        unfold freshS
        cases hd : d.has e.r e.n
        · have hc : c.has e.r e.n = false := by
            cases hc : c.has e.r e.n
            · rfl
            · rw [has_mono h hc] at hd; cases hd
          by_cases ha : (acc.any fun x => decide (x.mk_ = e.mk_)) = true
          · have hb : ((acc.filter fun e => !d.has e.r e.n).any fun x => decide (x.mk_ = e.mk_)) = true := by
              obtain ⟨y, hy, hye⟩ := List.any_eq_true.1 ha
              have hm := of_decide_eq_true hye
              have h1 : y.r = e.r := congrArg Mk.r hm
              have h2 : y.n = e.n := congrArg Mk.n hm
              exact List.any_eq_true.2 ⟨y, List.mem_filter.2 ⟨hy, by simp only [h1, h2, hd]; rfl⟩, hye⟩
            rw [if_pos (.inl hb), if_pos (.inl ha)]
          · have hb : ¬ ((acc.filter fun e => !d.has e.r e.n).any fun x => decide (x.mk_ = e.mk_)) = true := fun hx => by
              obtain ⟨y, hy, hye⟩ := List.any_eq_true.1 hx
              exact ha (List.any_eq_true.2 ⟨y, (List.mem_filter.1 hy).1, hye⟩)
            rw [if_neg (by rintro (x | x); exact hb x; cases x), if_neg (by rintro (x | x); exact ha x; rw [hc] at x; cases x), List.filter_append]
            simp [hd]
        · rw [if_pos (.inr rfl)]
          split
          · rfl
          · rw [List.filter_append]; simp [hd]
      rw [List.foldl_cons, List.foldl_cons, hs, ih]
  have := key l []
  simpa [freshL] using this
theorem drain_left_eq (c : Clk) (l : List Ev) (hd : Dst l) (hn : ∀ e ∈ l, c.has e.r e.n = false) : (drain c l).2.1 = l.filter fun e => !(drain c l).2.2.has e.r e.n := by
  have hs := filter_sub (drain_sub c l hd) hd
  conv => lhs; rw [← hs]
  refine List.filter_congr fun e he => ?_
  have hcnt := drain_cnt e.mk_ c l hd
  have h1 : 0 < cnt e.mk_ l := List.countP_pos_iff.2 ⟨e, he, decide_eq_true rfl⟩
  cases ha : ((drain c l).2.1.any fun x => decide (x.mk_ = e.mk_))
  · have h2 : cnt e.mk_ (drain c l).2.1 = 0 := List.countP_eq_zero.2 fun x hx hxe => by
      rw [List.any_eq_false] at ha
      exact ha x hx hxe
    have h3 : 0 < cnt e.mk_ (drain c l).1 := by omega
    obtain ⟨y, hy, hye⟩ := List.countP_pos_iff.1 h3
    have hm := of_decide_eq_true hye
    have e1 : y.r = e.r := congrArg Mk.r hm
    have e2 : y.n = e.n := congrArg Mk.n hm
    have := drain_done c l hd y hy
    rw [e1, e2] at this
    rw [this]; rfl
  · obtain ⟨y, hy, hye⟩ := List.any_eq_true.1 ha
    have hm := of_decide_eq_true hye
    have e1 : y.r = e.r := congrArg Mk.r hm
    have e2 : y.n = e.n := congrArg Mk.n hm
    have := drain_left c l hd hn y hy
    rw [e1, e2] at this
    rw [this]; rfl
/-- The same once more: nothing is done, and the same are left. -/
theorem drain_twice (c : Clk) (X : List Ev) : drain (drain c (freshL c X)).2.2 (freshL (drain c (freshL c X)).2.2 X) = ([], (drain c (freshL c X)).2.1, (drain c (freshL c X)).2.2) := by
  have hd : Dst (freshL c X) := freshL_dst c X [] List.Pairwise.nil
  rw [freshL_above (drain_le c _ hd) X, ← drain_left_eq c _ hd (freshL_has c X)]
  exact drain_stop (drain_end c _ hd)
end Go.Proofs.Ytcclbplccnaonaa
