/- A right past, made, in plain words. No condition. -/
import Derived.Test.YtmjpdibjdgjhgaaRdyP
namespace Go.Proofs.Ytmjpdibjdgjhgaa
open Go.RowKit
set_option linter.unusedSimpArgs false
set_option linter.unusedVariables false
/-- A choice. -/
structure Ch where
  r : Int
  from_ : Int
  sync : Bool
  ed : Ed
instance : Rep Ch := ⟨7, fun c => [.int .u8 c.r, .int .u8 c.from_, .bool c.sync, .int .i64 c.ed.kind, .string (S c.ed.key), .int .i64 c.ed.label, .string (S c.ed.value)], by decide, fun _ => rfl, fun _ => rfl⟩
structure Ch.Ok (c : Ch) : Prop where
  r : 0 ≤ c.r ∧ c.r ≤ 255
  f : 0 ≤ c.from_ ∧ c.from_ ≤ 255
  k : c.ed.key.length ≤ 140737488355328
  v : c.ed.value.length ≤ 140737488355328
def heightS (c : Clk) (s : Int × Bool) (e : Ev) : Int × Bool := if c.has e.r e.n = true ∧ (s.2 = false ∨ s.1 < e.h) then (e.h, true) else s
def heightP (out : List Ev) (c : Clk) : Int := (out.foldl (heightS c) (0, false)).1 + 1
/-- What is made so far, and what each replica has. -/
def mkStep (s : List Ev × List Clk) (ch : Ch) : List Ev × List Clk :=
  let c := s.2.getD (ch.r % 5).toNat Clk.zero
  if ch.sync = true then (s.1, s.2.set (ch.r % 5).toNat (c.join (s.2.getD (ch.from_ % 5).toNat Clk.zero)))
  else (s.1 ++ [⟨ch.r % 5, c.get (ch.r % 5).toNat + 1, c, heightP s.1 c, ch.ed.fit⟩], s.2.set (ch.r % 5).toNat (c.set (ch.r % 5).toNat (c.get (ch.r % 5).toNat + 1)))
def makeS (l : List Ch) : List Ev × List Clk := l.foldl mkStep ([], List.replicate 5 Clk.zero)
def makeP (l : List Ch) : List Ev := (makeS l).1
theorem makeS_take (l : List Ch) (i : Nat) (h : i < l.length) : makeS (l.take (i + 1)) = mkStep (makeS (l.take i)) (l[i]'h) := by
  rw [List.take_succ_eq_append_getElem h]
  unfold makeS
  rw [List.foldl_append]
  rfl
/-- Small numbers. -/
structure MkOk (m : Int) (s : List Ev × List Clk) : Prop where
  five : s.2.length = 5
  clk : ∀ c ∈ s.2, ∀ j, 0 ≤ c.get j ∧ c.get j ≤ m
  len : (s.1.length : Int) ≤ m
  n : ∀ e ∈ s.1, 1 ≤ e.n ∧ e.n ≤ m
  r : ∀ e ∈ s.1, 0 ≤ e.r ∧ e.r < 5
  h : ∀ e ∈ s.1, 1 ≤ e.h ∧ e.h ≤ m
theorem clk_join_get (a b : Clk) (j : Nat) : (a.join b).get j = max (a.get j) (b.get j) ∨ (a.join b).get j = 0 := by
  match j with
  | 0 => exact .inl rfl
  | 1 => exact .inl rfl
  | 2 => exact .inl rfl
  | 3 => exact .inl rfl
  | 4 => exact .inl rfl
  | j + 5 => right; simp [Clk.get]
theorem height_bd {out : List Ev} {c : Clk} {m : Int} (h : ∀ e ∈ out, 1 ≤ e.h ∧ e.h ≤ m) (hm : 0 ≤ m) : 0 ≤ (out.foldl (heightS c) (0, false)).1 ∧ (out.foldl (heightS c) (0, false)).1 ≤ m := by
  have key : ∀ (l : List Ev) (s : Int × Bool), (∀ e ∈ l, 1 ≤ e.h ∧ e.h ≤ m) → 0 ≤ s.1 ∧ s.1 ≤ m → 0 ≤ (l.foldl (heightS c) s).1 ∧ (l.foldl (heightS c) s).1 ≤ m := by
    intro l
    induction l with
    | nil => intro s _ h; exact h
    | cons a l ih =>
      intro s hl hs
      refine ih _ (fun e he => hl e (List.mem_cons_of_mem _ he)) ?_
      have := hl a (List.mem_cons_self ..)
      unfold heightS
      split
      · exact ⟨by show 0 ≤ a.h; omega, this.2⟩
      · exact hs
  exact key out (0, false) h ⟨Int.le_refl _, hm⟩
theorem getD_mem {s : List Clk} (h5 : s.length = 5) {r : Int} (h0 : 0 ≤ r ∧ r ≤ 255) : ∃ h : (r % 5).toNat < s.length, s.getD (r % 5).toNat Clk.zero = s[(r % 5).toNat]'h := by
  have h : (r % 5).toNat < s.length := by omega
  exact ⟨h, by simp [List.getD, h]⟩
theorem MkOk.step {m : Int} {s : List Ev × List Clk} (k : MkOk m s) {ch : Ch} (hc : ch.Ok) (hm : 0 ≤ m) : MkOk (m + 1) (mkStep s ch) := by
  obtain ⟨h5, h1, h2, h3, h4, h6⟩ := k
  obtain ⟨hl, he⟩ := getD_mem h5 hc.r
  obtain ⟨hl2, he2⟩ := getD_mem h5 hc.f
  have hcm := h1 _ (List.getElem_mem hl)
  have hcm2 := h1 _ (List.getElem_mem hl2)
  rw [← he] at hcm
  rw [← he2] at hcm2
  unfold mkStep
  simp only
  split
  · refine ⟨by simpa using h5, fun c hx j => ?_, by show (s.1.length : Int) ≤ m + 1; omega, fun e hx => by have := h3 e hx; omega, h4, fun e hx => by have := h6 e hx; omega⟩
    rcases List.mem_or_eq_of_mem_set hx with hx | rfl
    · have := h1 c hx j; omega
    · have a := hcm j
      have b := hcm2 j
      rcases clk_join_get (s.2.getD (ch.r % 5).toNat Clk.zero) (s.2.getD (ch.from_ % 5).toNat Clk.zero) j with h | h <;> rw [h] <;> omega
  · have hg := hcm (ch.r % 5).toNat
    have hb := height_bd (c := s.2.getD (ch.r % 5).toNat Clk.zero) h6 hm
    refine ⟨by simpa using h5, fun c hx j => ?_, by simp; omega, fun e hx => ?_, fun e hx => ?_, fun e hx => ?_⟩
    · rcases List.mem_or_eq_of_mem_set hx with hx | rfl
      · have := h1 c hx j; omega
      · rw [Clk.get_set _ _ _ _ (by omega)]
        split
        · omega
        · have := hcm j; omega
    · rcases List.mem_append.1 hx with hx | hx
      · have := h3 e hx; omega
      · simp only [List.mem_singleton] at hx; subst hx; simp only; omega
    · rcases List.mem_append.1 hx with hx | hx
      · exact h4 e hx
      · simp only [List.mem_singleton] at hx; subst hx; simp only; omega
    · rcases List.mem_append.1 hx with hx | hx
      · have := h6 e hx; omega
      · simp only [List.mem_singleton] at hx; subst hx; simp only [heightP]; omega
theorem makeS_ok (l : List Ch) (h : ∀ c ∈ l, c.Ok) : MkOk l.length (makeS l) := by
  have key : ∀ i, i ≤ l.length → MkOk i (makeS (l.take i)) := by
    intro i
    induction i with
    | zero =>
      intro _
      refine ⟨rfl, fun c hc j => ?_, by simp [makeS], by simp [makeS], by simp [makeS], by simp [makeS]⟩
      have : c = Clk.zero := List.eq_of_mem_replicate hc
      subst this
      match j with
      | 0 => decide
      | 1 => decide
      | 2 => decide
      | 3 => decide
      | 4 => decide
      | j + 5 => simp [Clk.get]
    | succ i ih =>
      intro hi
      rw [makeS_take l i (by omega)]
      have := (ih (by omega)).step (h _ (List.getElem_mem (by omega : i < l.length))) (by omega)
      simpa using this
  have := key l.length (Nat.le_refl _)
  rwa [List.take_length] at this
end Go.Proofs.Ytmjpdibjdgjhgaa
