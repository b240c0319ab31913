/- Creates of one replica, by number, in plain words. No condition. -/
import Derived.Test.YtmjpdibjdgjhgaaRdyP
namespace Go.Proofs.Ytmjpdibjdgjhgaa
open Go.RowKit
set_option linter.unusedSimpArgs false
set_option linter.unusedVariables false
def cyB : List UInt8 := [99, 121]
def madeE (n : Int) : Ev := ⟨0, n, ⟨n - 1, 0, 0, 0, 0⟩, n, ⟨1, cyB, 0, []⟩⟩
def clk0 (k : Int) : Clk := ⟨k, 0, 0, 0, 0⟩
def mades (ns : List Int) : List Ev := ns.map madeE
theorem madeE_mk (n : Int) : (madeE n).mk_ = ⟨0, n⟩ := rfl
theorem mades_dst {ns : List Int} (h : ns.Nodup) : Dst (mades ns) := by
  unfold Dst mades
  rw [List.pairwise_map]
  refine h.imp fun {a b} hab he => hab ?_
  have := congrArg Mk.n he
  exact this
theorem mades_mem {ns : List Int} {e : Ev} (h : e ∈ mades ns) : ∃ n, n ∈ ns ∧ e = madeE n := by
  obtain ⟨n, hn, rfl⟩ := List.mem_map.1 h
  exact ⟨n, hn, rfl⟩
theorem madeE_rdy (k n : Int) (hk : 0 ≤ k) : (madeE n).rdy (clk0 k) ↔ n = k + 1 := by
  unfold Ev.rdy
  constructor
  · rintro ⟨_, _, _, h, _⟩
    have : n - 1 = k := h
    omega
  · intro h
    refine ⟨Int.le_refl 0, (by decide : (0 : Int) < 5), by show 1 ≤ n; omega, by show n - 1 = k; omega, ?_⟩
    have : n - 1 ≤ k := by omega
    simp [Clk.le, madeE, clk0, this]
theorem madeE_has (k n : Int) : (clk0 k).has (madeE n).r (madeE n).n = true ↔ 1 ≤ n ∧ n ≤ k := by
  rw [Clk.has_iff]
  constructor
  · rintro ⟨_, _, a, b⟩; exact ⟨a, b⟩
  · rintro ⟨a, b⟩; exact ⟨Int.le_refl 0, (by decide : (0 : Int) < 5), a, b⟩
theorem mades_none {k : Int} {ns : List Int} (hk : 0 ≤ k) (h : ∀ n ∈ ns, n ≠ k + 1) : drain (clk0 k) (mades ns) = ([], mades ns, clk0 k) := by
  refine drain_stop fun i ⟨hi, hr, _⟩ => ?_
  obtain ⟨n, hn, he⟩ := mades_mem (List.getElem_mem hi)
  rw [he] at hr
  exact h n hn ((madeE_rdy k n hk).1 hr)
theorem mades_fresh {k : Int} {ns : List Int} (hd : ns.Nodup) (h : ∀ n ∈ ns, k < n) : freshL (clk0 k) (mades ns) = mades ns := by
  refine freshL_id (mades_dst hd) fun e he => ?_
  obtain ⟨n, hn, rfl⟩ := mades_mem he
  have := h n hn
  cases hh : (clk0 k).has (madeE n).r (madeE n).n
  · rfl
  · have := ((madeE_has k n).1 hh).2; omega
/-- One of them comes next. -/
theorem mades_next {k : Int} {ns : List Int} (hk : 0 ≤ k) (hd : ns.Nodup) {i : Nat} (hi : i < ns.length) (hn : ns[i]'hi = k + 1) :
    drain (clk0 k) (mades ns) = (madeE (k + 1) :: (drain (clk0 (k + 1)) (mades (ns.eraseIdx i))).1, (drain (clk0 (k + 1)) (mades (ns.eraseIdx i))).2) := by
  have hl : i < (mades ns).length := by simpa [mades] using hi
  have hg : (mades ns)[i]'hl = madeE (k + 1) := by simp [mades, hn]
  have hx : NextI (clk0 k) (mades ns) i := ⟨hl, by rw [hg]; exact (madeE_rdy k _ hk).2 rfl, fun j hj hr => by
    obtain ⟨n, hn, he⟩ := mades_mem (List.getElem_mem hj)
    rw [he, hg]
    exact Int.le_refl _⟩
  rw [drain_step (mades_dst hd) hl hx]
  have he : (mades ns).eraseIdx i = mades (ns.eraseIdx i) := (eraseIdx_map madeE ns i).symm
  rw [he, hg]
  rfl
def upN (k : Int) (m : Nat) : List Int := (List.range m).map fun (i : Nat) => k + i
theorem upN_len (k : Int) (m : Nat) : (upN k m).length = m := by simp [upN]
theorem upN_mem {k : Int} {m : Nat} {n : Int} : n ∈ upN k m ↔ k ≤ n ∧ n < k + m := by
  simp only [upN, List.mem_map, List.mem_range]
  constructor
  · rintro ⟨i, hi, rfl⟩; omega
  · rintro ⟨h1, h2⟩; exact ⟨(n - k).toNat, by omega, by omega⟩
theorem upN_succ' (k : Int) (m : Nat) : upN k (m + 1) = k :: upN (k + 1) m := by
  simp only [upN, List.range_succ_eq_map, List.map_cons, List.map_map]
  congr 1
  · simp
  · apply List.map_congr_left
    intro i _
    simp only [Function.comp]
    omega
theorem upN_succ (k : Int) (m : Nat) : upN k (m + 1) = upN k m ++ [k + m] := by simp [upN, List.range_succ]
theorem upN_nodup (k : Int) (m : Nat) : (upN k m).Nodup := by
  induction m generalizing k with
  | zero => simp [upN]
  | succ m ih =>
    rw [upN_succ']
    refine List.nodup_cons.2 ⟨fun h => ?_, ih (k + 1)⟩
    have := (upN_mem.1 h).1
    omega
/-- A run that can be delivered, and some that can't. -/
theorem drain_run : ∀ (m : Nat) (k : Int) (T : List Int), 0 ≤ k → (upN (k + 1) m ++ T).Nodup → (∀ t ∈ T, k + m + 1 < t) →
    drain (clk0 k) (mades (upN (k + 1) m ++ T)) = (mades (upN (k + 1) m), mades T, clk0 (k + m))
  | 0, k, T, hk, hd, hT => by
    have : upN (k + 1) 0 ++ T = T := by simp [upN]
    rw [this, mades_none hk (fun n hn => by have := hT n hn; omega)]
    simp [upN, mades]
  | m + 1, k, T, hk, hd, hT => by
    rw [upN_succ'] at hd ⊢
    have hd2 : (upN (k + 1 + 1) m ++ T).Nodup := (List.nodup_cons.1 hd).2
    rw [mades_next hk hd (i := 0) (by simp) (by simp)]
    have he : ((k + 1) :: upN (k + 1 + 1) m ++ T).eraseIdx 0 = upN (k + 1 + 1) m ++ T := by simp
    rw [he, drain_run m (k + 1) T (by omega) hd2 (fun t ht => by have := hT t ht; omega)]
    have : k + 1 + (m : Int) = k + ((m + 1 : Nat) : Int) := by omega
    rw [this]
    simp [mades]
/-- What came too early, and then the one that was missing. -/
theorem drain_late (m : Nat) (T : List Int) (hT : ∀ t ∈ T, (m : Int) + 2 < t) (hN : T.Nodup) :
    drain (clk0 0) (freshL (clk0 0) (mades (upN 2 m ++ (T ++ [1])))) = (mades (upN 1 (m + 1)), mades T, clk0 (m + 1)) := by
  have hd0 : (upN 2 m ++ T).Nodup := List.nodup_append.2 ⟨upN_nodup 2 m, hN, fun a ha b hb hab => by
    subst hab
    have h1 := (upN_mem.1 ha).2
    have h2 := hT _ hb
    omega⟩
  have hd : (upN 2 m ++ (T ++ [1])).Nodup := by
    rw [← List.append_assoc]
    refine List.nodup_append.2 ⟨hd0, by simp, fun a ha b hb hab => ?_⟩
    simp only [List.mem_singleton] at hb
    subst hb
    subst hab
    rcases List.mem_append.1 ha with h | h
    · have := (upN_mem.1 h).1; omega
    · have := hT _ h; omega
  rw [mades_fresh hd (fun n hn => by
    rcases List.mem_append.1 hn with h | h
    · have := (upN_mem.1 h).1; omega
    · rcases List.mem_append.1 h with h | h
      · have := hT _ h; omega
      · simp at h; omega)]
  have hi : (upN 2 m ++ T).length < (upN 2 m ++ (T ++ [1])).length := by simp
  rw [mades_next (Int.le_refl 0) hd (i := (upN 2 m ++ T).length) hi (by
    have : upN 2 m ++ (T ++ [1]) = (upN 2 m ++ T) ++ [1] := by rw [List.append_assoc]
    simp only [this]
    rw [List.getElem_append_right (by omega)]
    simp)]
  have he : (upN 2 m ++ (T ++ [1])).eraseIdx (upN 2 m ++ T).length = upN 2 m ++ T := by
    rw [← List.append_assoc, List.eraseIdx_append_of_length_le (Nat.le_refl _)]
    simp
  have hrun := drain_run m 1 T (by decide) hd0 (fun t ht => by have := hT t ht; omega)
  rw [he]
  have h01 : (0 : Int) + 1 = 1 := by decide
  rw [h01]
  have h12 : (1 : Int) + 1 = 2 := by decide
  rw [h12] at hrun
  rw [hrun, upN_succ']
  have : (1 : Int) + m = m + 1 := by omega
  rw [this]
  simp [mades]
/-- What can't be delivered yet. -/
theorem drain_early (ns : List Int) (hd : ns.Nodup) (h : ∀ n ∈ ns, 2 ≤ n) : drain (clk0 0) (freshL (clk0 0) (mades ns)) = ([], mades ns, clk0 0) := by
  rw [mades_fresh hd (fun n hn => by have := h n hn; omega)]
  exact mades_none (Int.le_refl 0) (fun n hn => by have := h n hn; omega)
/-- One that was seen, behind one that can't be delivered. -/
theorem drain_old (k t : Int) (hk : 1 ≤ k) (ht : k + 1 < t) : drain (clk0 k) (freshL (clk0 k) (mades [t, 1])) = ([], mades [t], clk0 k) := by
  have hf : freshL (clk0 k) (mades [t, 1]) = mades [t] := by
    have h1 : (clk0 k).has (madeE t).r (madeE t).n = false := by
      cases hh : (clk0 k).has (madeE t).r (madeE t).n
      · rfl
      · have := ((madeE_has k t).1 hh).2; omega
    have h2 : (clk0 k).has (madeE 1).r (madeE 1).n = true := (madeE_has k 1).2 ⟨Int.le_refl _, hk⟩
    show freshS (clk0 k) (freshS (clk0 k) [] (madeE t)) (madeE 1) = [madeE t]
    have e1 : freshS (clk0 k) [] (madeE t) = [madeE t] := by unfold freshS; rw [if_neg (by rw [h1]; simp)]; rfl
    rw [e1]
    unfold freshS
    rw [if_pos (.inr h2)]
  rw [hf]
  exact mades_none (by omega) (fun n hn => by simp at hn; omega)
end Go.Proofs.Ytmjpdibjdgjhgaa
