/- What is owned: blocks, rows; what is read; the walk's steps over memory. No condition. -/
import Derived.Test.YtkcpgdkchglhhaaSepV
import Derived.Test.YtkcpgdkchglhhaaSl
import Derived.Test.YtkcpgdkchglhhaaSl2
namespace Go.Proofs.Ytkcpgdkchglhhaa
open Go.RowKit
set_option linter.unusedSimpArgs false
set_option linter.unusedVariables false
def Free (fr : Nat × Nat) (m : Nat) : Prop := ∀ o, o < m → ¬ (fr.1 ≤ o ∧ o < fr.2)
/-- Block g is these cells. -/
def Blk (g : Nat) (t : TypeId) (cs : List Value) : Assn := fun h => ∃ fr, Free fr cs.length ∧ h = Frag.one g (.cells cs.toArray t fr)
/-- v is a slice of k elements with a row of its own; its cells are cs. -/
def Row (v : Value) (t : TypeId) (sz k : Nat) (cs : List Value) : Assn := fun h => cs.length = k * sz ∧
  ((k = 0 ∧ (∃ b, v = .slice b 0 0) ∧ h = fun _ => none) ∨
    ∃ g cap cur, v = .slice (some ⟨g, 0, none⟩) k cap ∧ h = Frag.one g (.cells cur t (0, 0)) ∧ k ≤ cap ∧ cap ≤ maxLen ∧ cur.size = cap * sz ∧ cur.toList.take (k * sz) = cs)
theorem cell_heap {w : World} {g o : Nat} {c : Array Value} {t : TypeId} {fr : Nat × Nat} (h : w.heap[g]? = some (.cells c t fr)) : w.cell? ⟨g, o, none⟩ = c[o]? := by
  simp [World.cell?, h]
theorem frozen_heap {w : World} {g o : Nat} {c : Array Value} {t : TypeId} {fr : Nat × Nat} (h : w.heap[g]? = some (.cells c t fr)) : w.frozen? ⟨g, o, none⟩ = (decide (fr.1 ≤ o) && decide (o < fr.2)) := by
  simp [World.frozen?, h]
theorem addr_add (g o m : Nat) : (⟨g, o, none⟩ : Addr).add m = ⟨g, o + m, none⟩ := by unfold Addr.add; split <;> simp_all
theorem addr_add2 (a : Addr) (m k : Nat) : (a.add m).add k = a.add (m + k) := by
  unfold Addr.add
  by_cases h1 : m = 0 <;> by_cases h2 : k = 0 <;> simp [h1, h2] <;> omega
section
variable {P : Program} {L : List Assn} {F : Frag} {w : World}
theorem blk_heap {i g : Nat} {t : TypeId} {cs : List Value} (hi : L[i]? = some (Blk g t cs)) (s : Sats w L F) : ∃ fr, Free fr cs.length ∧ w.heap[g]? = some (.cells cs.toArray t fr) := by
  obtain ⟨h, ⟨fr, hfr, rfl⟩, d, s'⟩ := Sats.pick hi s
  exact ⟨fr, hfr, Sats.frame_left s' g _ (Frag.one_self g _)⟩
theorem blk_cell {i g o : Nat} {t : TypeId} {cs : List Value} {v : Value} (hi : L[i]? = some (Blk g t cs)) (hv : cs[o]? = some v) (s : Sats w L F) : w.cell? ⟨g, o, none⟩ = some v := by
  obtain ⟨fr, _, h⟩ := blk_heap hi s
  rw [cell_heap h]; simpa using hv
theorem setCell_heap (w : World) (a : Addr) (v : Value) (k : Nat) : (w.setCell a v).heap[k]? = if k = a.block then (w.heap[k]?).map (fun o => match o with | .cells c elem fr => .cells (if a.spot.isSome then c else c.setIfInBounds a.off v) elem fr | o => o) else w.heap[k]? := by
  simp only [World.setCell, Array.getElem?_modify]
  by_cases h : a.block = k
  · subst h; simp; rfl
  · rw [if_neg h, if_neg (fun e => h e.symm)]
theorem blk_store {i g o : Nat} {t : TypeId} {cs : List Value} (v : Value) (hi : L[i]? = some (Blk g t cs)) (ho : o < cs.length) (s : Sats w L F) : Sats (w.setCell ⟨g, o, none⟩ v) (L.set i (Blk g t (cs.set o v))) F := by
  obtain ⟨h, ⟨fr, hfr, rfl⟩, d, s'⟩ := Sats.pick hi s
  have hg := Sats.frame_left s' g _ (Frag.one_self g _)
  have hil : i < L.length := (List.getElem?_eq_some_iff.1 hi).1
  have hd : (Frag.one g (.cells (cs.set o v).toArray t fr)).disj F := by
    intro n
    by_cases hn : n = g
    · subst hn
      rcases d n with x | x
      · rw [Frag.one_self] at x; cases x
      · exact .inr x
    · exact .inl (Frag.one_other _ hn)
  refine Sats.put hil ⟨fr, by simpa using hfr, rfl⟩ hd ?_
  refine Sats.swap (w := w) (h := Frag.one g (.cells cs.toArray t fr)) ?_ ?_ ?_ d s'
  · intro n hn
    by_cases e : n = g
    · subst e; rw [Frag.one_self] at hn; cases hn
    · exact Frag.one_other _ e
  · intro n x hn hx
    have e : n ≠ g := by rintro rfl; rw [Frag.one_self] at hn; cases hn
    rw [setCell_heap, if_neg e]; exact hx
  · intro n x hx
    by_cases e : n = g
    · subst e
      rw [Frag.one_self] at hx
      cases hx
      rw [setCell_heap, if_pos rfl, hg]
      simp
    · rw [Frag.one_other _ e] at hx; cases hx
theorem blk_frozen {i g o : Nat} {t : TypeId} {cs : List Value} (hi : L[i]? = some (Blk g t cs)) (ho : o < cs.length) (s : Sats w L F) : w.frozen? ⟨g, o, none⟩ = false := by
  obtain ⟨fr, hfr, h⟩ := blk_heap hi s
  rw [frozen_heap h]
  have := hfr o ho
  simp
  omega
theorem row_heap {i : Nat} {v : Value} {t : TypeId} {sz k : Nat} {cs : List Value} (hi : L[i]? = some (Row v t sz k cs)) (s : Sats w L F) : cs.length = k * sz ∧
    ((k = 0 ∧ ∃ b, v = .slice b 0 0) ∨ ∃ g cap cur, v = .slice (some ⟨g, 0, none⟩) k cap ∧ w.heap[g]? = some (.cells cur t (0, 0)) ∧ k ≤ cap ∧ cap ≤ maxLen ∧ cur.size = cap * sz ∧ cur.toList.take (k * sz) = cs) := by
  obtain ⟨h, ⟨hl, hc⟩, d, s'⟩ := Sats.pick hi s
  refine ⟨hl, ?_⟩
  rcases hc with ⟨h1, h2, _⟩ | ⟨g, cap, cur, h1, rfl, h3⟩
  · exact .inl ⟨h1, h2⟩
  · exact .inr ⟨g, cap, cur, h1, Sats.frame_left s' g _ (Frag.one_self g _), h3⟩
theorem row_sl {i : Nat} {v : Value} {t : TypeId} {sz k : Nat} {cs : List Value} (hi : L[i]? = some (Row v t sz k cs)) (s : Sats w L F) : Sl w v sz k cs := by
  obtain ⟨hl, h⟩ := row_heap hi s
  exact Own.sl (base := 0) (e := t) ⟨hl, by
    rcases h with h | ⟨g, cap, cur, h1, h2, h3⟩
    · exact .inl h
    · exact .inr ⟨g, cap, cur, h1, Nat.zero_le _, h2, h3⟩⟩
end
/-- v reads as k elements with the cells cs, in whatever world that has L. -/
def Rd (L : List Assn) (v : Value) (sz k : Nat) (cs : List Value) : Prop := ∀ w F, Sats w L F → Sl w v sz k cs
section
variable {L : List Assn} {v : Value} {sz k : Nat} {cs : List Value}
theorem rd_row {t : TypeId} (i : Nat) (hi : L[i]? = some (Row v t sz k cs)) : Rd L v sz k cs := fun w F s => row_sl hi s
theorem rd_sub {L' : List Assn} (h : Rd L' v sz k cs) (hs : Sub L' L) : Rd L v sz k cs := fun w F s => h w F (hs w F s)
theorem rd_cons {A : Assn} (h : Rd L v sz k cs) : Rd (A :: L) v sz k cs := rd_sub h (Sub.drop A (Sub.refl L))
theorem sl_heap {w w' : World} (h : Sl w v sz k cs) (hb : ∀ n, n < w.heap.size → w'.heap[n]? = w.heap[n]?) : Sl w' v sz k cs := by
  obtain ⟨h1, a, cap, h2, h3, h4, h5, h6⟩ := h
  refine ⟨h1, a, cap, h2, h3, h4, h5, fun ad ha j u hu => ?_⟩
  have := h6 ad ha j u hu
  rw [← this]
  exact World.cell?_of_block (w := w) (hb _ (World.block_lt_of_cell? w _ this))
theorem rd_base {W : World} (i : Nat) (hi : L[i]? = some (Base W)) (h : Sl W v sz k cs) : Rd L v sz k cs := fun w F s => by
  obtain ⟨x, a, d, s'⟩ := Sats.pick hi s
  refine sl_heap h fun n hn => ?_
  have := Sats.frame_left s' n (W.heap[n]) (by rw [a n, Array.getElem?_eq_getElem hn])
  rw [this, Array.getElem?_eq_getElem hn]
theorem rd_nil (L : List Assn) (sz : Nat) : Rd L (.slice none 0 0) sz 0 [] := fun w F s => Sl.nil w sz
end
end Go.Proofs.Ytkcpgdkchglhhaa
