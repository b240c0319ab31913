/- A world that is later than another one, by a name; a region that draws its order and whose callees make memory of their own: one walk. No condition. -/
import Derived.Test.YtpamhedjdpfiaaaBase
namespace Go
open Go.Proofs.Ytpamhedjdpfiaaa
/-- A world in which all that was there is as it was. -/
structure Later (w : World) where
  val : World
  kp : Kp w val
instance Later.inh (w : World) : Nonempty (Later w) := ⟨⟨w, Kp.refl w⟩⟩
def World.ext (w : World) (x : Later w) : World := x.val
def Later.grow {w : World} (x : Later w) : Nat := x.val.heap.size - w.heap.size
namespace ExtLaws
@[go_sem] theorem size_ext (w : World) (x : Later w) : (w.ext x).heap.size = w.heap.size + x.grow := by
  have := Kp.size x.kp
  unfold World.ext Later.grow
  omega
@[go_sem high] theorem cell_ext (w : World) (x : Later w) (b o : Nat) (s : Option Nat) : (w.ext x).cell? ⟨b, o, s⟩ = if b < w.heap.size then w.cell? ⟨b, o, s⟩ else x.val.cell? ⟨b, o, s⟩ := by
  split
  · exact Kp.cell x.kp ‹_›
  · rfl
@[go_sem high] theorem frozen_ext (w : World) (x : Later w) (b o : Nat) (s : Option Nat) : (w.ext x).frozen? ⟨b, o, s⟩ = if b < w.heap.size then w.frozen? ⟨b, o, s⟩ else x.val.frozen? ⟨b, o, s⟩ := by
  split
  · exact Kp.frozen x.kp ‹_›
  · rfl
@[go_sem high] theorem cell_alloc (w : World) (c : Array Value) (t : TypeId) (n i : Nat) : (w.alloc (.cells c t)).cell? ⟨n, i, none⟩ = if n < w.heap.size then w.cell? ⟨n, i, none⟩ else if n = w.heap.size then c[i]? else none := by
  split
  · exact World.cell?_alloc_lt w _ ⟨n, i, none⟩ ‹_›
  · split
    · (subst n; exact World.cell?_alloc_new w c t i)
    · rw [World.cell?_alloc_old _ _ _ ‹_›]
      simp [World.cell?, Array.getElem?_eq_none (show w.heap.size ≤ n by omega)]
@[go_sem high] theorem frozen_alloc (w : World) (c : Array Value) (t : TypeId) (n i : Nat) : (w.alloc (.cells c t)).frozen? ⟨n, i, none⟩ = if n < w.heap.size then w.frozen? ⟨n, i, none⟩ else false := by
  split
  · exact World.frozen?_alloc_old w _ ⟨n, i, none⟩ (Nat.ne_of_lt ‹_›)
  · by_cases h : n = w.heap.size
    · (subst n; exact World.frozen?_alloc_new w c t i)
    · rw [World.frozen?_alloc_old _ _ _ h]
      simp [World.frozen?, Array.getElem?_eq_none (show w.heap.size ≤ n by omega)]
end ExtLaws
end Go
namespace Go.Proofs.Ytpamhedjdpfiaaa
open Go.RowKit
set_option linter.unusedSimpArgs false
set_option linter.unusedVariables false
theorem Kp.ext {a w : World} (h : Kp a w) (x : Later w) : Kp a (w.ext x) := Kp.trans h x.kp
theorem Kp.later {w w' : World} (h : Kp w w') : ∃ x : Later w, w' = w.ext x := ⟨⟨w', h⟩, rfl⟩
theorem ext_cell {w : World} {p : Addr} {v : Value} (h : w.cell? p = some v) (x : Later w) : (w.ext x).cell? p = some v := by
  rw [← h]; exact Kp.cell x.kp (World.block_lt_of_cell? w p h)
/-- A contract, in the walk's words. -/
theorem calls_ext {P : Program} {f : FuncId} {args : Array Value} {w : World} {v : Value} (h : Calls P f args w fun e w' => e = .returned v ∧ Kp w w') :
    Calls P f args w fun e w' => e = .returned v ∧ ∃ x : Later w, w' = w.ext x := h.mono fun _ _ ⟨he, hk⟩ => ⟨he, hk.later⟩
theorem calls_ext2 {P : Program} {f : FuncId} {args : Array Value} {w : World} {x : Later w} {v : Value} (h : Calls P f args (w.ext x) fun e w' => e = .returned v ∧ Kp (w.ext x) w') :
    Calls P f args (w.ext x) fun e w' => e = .returned v ∧ ∃ y : Later w, w' = w.ext y := h.mono fun _ _ ⟨he, hk⟩ => ⟨he, (Kp.trans x.kp hk).later⟩
/-- A region that draws its order, every operation quiet in the worlds later than this one. -/
theorem wp_region_ext {P : Program} {id : Nat} {Q : Exit → Act → World → Prop} {a : Act} {w : World} {l : List Oper} (hm : P.follows .mixedOrders = true) (hB : Region.lexB .any l.toArray = true)
    (h : wpQuiet P l.toArray (fun w' => ∃ x : Later w, w' = w.ext x) (fun a' => ∀ w', (∃ x : Later w, w' = w.ext x) → Q .normal a' w') l a) : (Code.region id l.toArray true).wp P Q a w :=
  wp_region_quiet (C := fun w' => ∃ x : Later w, w' = w.ext x) hm hB (Kp.later (Kp.drew (Kp.refl w))) (by simpa using h)
end Go.Proofs.Ytpamhedjdpfiaaa
