/- A block written anew, by a name. No condition. -/
import Derived.Test.YtkcpgdkchglhhaaExt
namespace Go
open Go.Proofs.Ytkcpgdkchglhhaa
/-- A block written anew. -/
def World.put (w : World) (g : Nat) (cs : Array Value) (t : TypeId) : World := { w with heap := w.heap.setIfInBounds g (.cells cs t) }
namespace ExtLaws
@[go_sem] theorem size_put (w : World) (g : Nat) (cs : Array Value) (t : TypeId) : (w.put g cs t).heap.size = w.heap.size := by simp [World.put]
theorem heap_put (w : World) (g : Nat) (cs : Array Value) (t : TypeId) (k : Nat) : (w.put g cs t).heap[k]? = if k = g then (if g < w.heap.size then some (.cells cs t) else none) else w.heap[k]? := by
  simp only [World.put, Array.getElem?_setIfInBounds]
  by_cases h : k = g
  · subst h; simp
  · simp [h, Ne.symm h]
theorem put_same (w : World) (g : Nat) (cs : Array Value) (t : TypeId) (h : w.heap[g]? = some (.cells cs t)) : w.put g cs t = w := by
  have hl : g < w.heap.size := (Array.getElem?_eq_some_iff.1 h).1
  unfold World.put
  have e : w.heap.setIfInBounds g (.cells cs t) = w.heap := by
    apply Array.ext_getElem?
    intro k
    rw [Array.getElem?_setIfInBounds]
    by_cases hk : g = k
    · subst hk; rw [h]; simp [hl]
    · simp [hk]
  rw [e]
@[go_sem high] theorem cell_put (w : World) (g : Nat) (cs : Array Value) (t : TypeId) (b o : Nat) : (w.put g cs t).cell? ⟨b, o, none⟩ = if b = g then (if g < w.heap.size then cs[o]? else none) else w.cell? ⟨b, o, none⟩ := by
  simp only [World.cell?, heap_put]
  by_cases h : b = g
  · subst h
    by_cases h2 : b < w.heap.size <;> simp [h2]
  · simp [h]
@[go_sem high] theorem frozen_put (w : World) (g : Nat) (cs : Array Value) (t : TypeId) (b o : Nat) (s : Option Nat) : (w.put g cs t).frozen? ⟨b, o, s⟩ = if b = g then noFreeze else w.frozen? ⟨b, o, s⟩ := by
  unfold noFreeze
  simp only [World.frozen?, heap_put]
  by_cases h : b = g
  · subst h
    by_cases h2 : b < w.heap.size <;> simp [h2]
  · simp [h]
@[go_sem high] theorem setCell_put (w : World) (g : Nat) (cs : Array Value) (t : TypeId) (b o : Nat) (v : Value) : (w.put g cs t).setCell ⟨b, o, none⟩ v = if b = g then w.put g (cs.setIfInBounds o v) t else (w.setCell ⟨b, o, none⟩ v).put g cs t := by
  have hh : ∀ (a c : World), a.heap = c.heap → a.tape = c.tape → a.drawn = c.drawn → a.os = c.os → a.output = c.output → a = c := by
    intro a c h1 h2 h3 h4 h5; cases a; cases c; simp_all
  split
  · subst b
    refine hh _ _ ?_ rfl rfl rfl rfl
    apply Array.ext_getElem?
    intro k
    simp only [World.setCell, World.put, Array.getElem?_modify, Array.getElem?_setIfInBounds]
    by_cases hk : g = k
    · subst hk
      by_cases hg : g < w.heap.size <;> simp [hg]
    · simp [hk]
  · rename_i hb
    refine hh _ _ ?_ rfl rfl rfl rfl
    apply Array.ext_getElem?
    intro k
    simp only [World.setCell, World.put, Array.getElem?_modify, Array.getElem?_setIfInBounds, Array.size_modify]
    by_cases hk : g = k
    · subst hk
      simp [hb]
    · simp [hk]
end ExtLaws
end Go
namespace Go.Proofs.Ytkcpgdkchglhhaa
open Go.RowKit
theorem Kp.put {a w : World} (h : Kp a w) (g : Nat) (cs : Array Value) (t : TypeId) (hg : a.heap.size ≤ g) : Kp a (w.put g cs t) := by
  have h' : RowKit.Below a.heap.size a w := h
  show RowKit.Below _ _ _
  refine ⟨h'.os, h'.tape, h'.output, by rw [ExtLaws.size_put]; exact h'.size, fun k hk => ?_⟩
  rw [ExtLaws.heap_put, if_neg (by omega)]
  exact h'.block k hk
/-- The world, by a name. -/
theorem wp_gen {P : Program} {c : Code} {Q : Exit → Act → World → Prop} {a : Act} {w : World} (h : ∀ W, W = w → c.wp P Q a W) : c.wp P Q a w := h w rfl
theorem alloc_block (w : World) (o : Obj) (n : Nat) (h : n = w.heap.size) : (w.alloc o).heap[n]? = some o := by subst h; exact heap_alloc_new w o
end Go.Proofs.Ytkcpgdkchglhhaa
