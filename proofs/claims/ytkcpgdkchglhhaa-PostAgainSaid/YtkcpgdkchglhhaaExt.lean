/- A world that is later than another one, by a name; a region that draws its order and whose callees make memory of their own: one walk. No condition. -/
import Derived.Test.YtkcpgdkchglhhaaBase
namespace Go
open Go.Proofs.Ytkcpgdkchglhhaa
/-- What came to a world: new blocks, draws. -/
structure Later where
  blocks : Array Obj
  drawn : Nat
instance Later.inh : Nonempty Later := ⟨⟨#[], 0⟩⟩
/-- A world in which all that was there is as it was. -/
def World.ext (w : World) (x : Later) : World := { w with heap := w.heap ++ x.blocks, drawn := x.drawn }
def Later.grow (x : Later) : Nat := x.blocks.size
theorem kp_ext (w : World) (x : Later) : Kp w (w.ext x) := by
  show RowKit.Below _ _ _
  refine ⟨rfl, rfl, rfl, by simp [World.ext], fun k hk => ?_⟩
  simp only [World.ext]
  rw [Array.getElem?_append_left hk]
theorem later_of_kp {w w' : World} (h : Kp w w') : ∃ x : Later, w' = w.ext x := by
  have h' : RowKit.Below w.heap.size w w' := h
  refine ⟨⟨w'.heap.extract w.heap.size w'.heap.size, w'.drawn⟩, ?_⟩
  have hh : w'.heap = w.heap ++ w'.heap.extract w.heap.size w'.heap.size := by
    apply Array.ext_getElem?
    intro k
    by_cases hk : k < w.heap.size
    · rw [Array.getElem?_append_left hk, h'.block k hk]
    · have hs := h'.size
      rw [Array.getElem?_append_right (by omega), Array.getElem?_extract]
      by_cases h2 : k < w'.heap.size
      · rw [if_pos (by omega)]
        congr 1
        omega
      · rw [if_neg (by omega), Array.getElem?_eq_none (by omega)]
  have e1 := h'.os
  have e2 := h'.tape
  have e3 := h'.output
  cases w
  cases w'
  simp only [World.ext, World.mk.injEq] at *
  exact ⟨hh, e2, trivial, e1, e3⟩
/-- What a cell of what came holds. -/
def Later.cellAt (x : Later) (w : World) (a : Addr) : Option Value := (w.ext x).cell? a
def Later.frozenAt (x : Later) (w : World) (a : Addr) : Bool := (w.ext x).frozen? a
def World.setHere (w : World) (p : Addr) (v : Value) : World := w.setCell p v
/-- 'No', by a name: so that the test ahead of it is decided first. -/
def noFreeze : Bool := false
namespace ExtLaws
@[go_sem] theorem ite_noFreeze {α : Type} (a b : α) : (if noFreeze = true then a else b) = b := rfl
@[go_sem] theorem size_ext (w : World) (x : Later) : (w.ext x).heap.size = w.heap.size + x.grow := by
  simp [World.ext, Later.grow]
@[go_sem high] theorem cell_ext (w : World) (x : Later) (b o : Nat) (s : Option Nat) : (w.ext x).cell? ⟨b, o, s⟩ = if b < w.heap.size then w.cell? ⟨b, o, s⟩ else x.cellAt w ⟨b, o, s⟩ := by
  split
  · exact Kp.cell (kp_ext w x) ‹_›
  · rfl
@[go_sem high] theorem frozen_ext (w : World) (x : Later) (b o : Nat) (s : Option Nat) : (w.ext x).frozen? ⟨b, o, s⟩ = if b < w.heap.size then w.frozen? ⟨b, o, s⟩ else x.frozenAt w ⟨b, o, s⟩ := by
  split
  · exact Kp.frozen (kp_ext w x) ‹_›
  · rfl
@[go_sem high] theorem cell_alloc (w : World) (c : Array Value) (t : TypeId) (n i : Nat) : (w.alloc (.cells c t)).cell? ⟨n, i, none⟩ = if n < w.heap.size then w.cell? ⟨n, i, none⟩ else if n = w.heap.size then c[i]? else none := by
  split
  · exact World.cell?_alloc_lt w _ ⟨n, i, none⟩ ‹_›
  · split
    · (subst n; exact World.cell?_alloc_new w c t i)
    · rw [World.cell?_alloc_old _ _ _ ‹_›]
      simp [World.cell?, Array.getElem?_eq_none (show w.heap.size ≤ n by omega)]
@[go_sem high] theorem frozen_alloc (w : World) (c : Array Value) (t : TypeId) (n i : Nat) : (w.alloc (.cells c t)).frozen? ⟨n, i, none⟩ = if n < w.heap.size then w.frozen? ⟨n, i, none⟩ else noFreeze := by
  unfold noFreeze
  split
  · exact World.frozen?_alloc_old w _ ⟨n, i, none⟩ (Nat.ne_of_lt ‹_›)
  · by_cases h : n = w.heap.size
    · (subst n; exact World.frozen?_alloc_new w c t i)
    · rw [World.frozen?_alloc_old _ _ _ h]
      simp [World.frozen?, Array.getElem?_eq_none (show w.heap.size ≤ n by omega)]
@[go_sem high] theorem setCell_ext (w : World) (x : Later) (b o : Nat) (s : Option Nat) (v : Value) : (w.ext x).setCell ⟨b, o, s⟩ v = if b < w.heap.size then (w.setCell ⟨b, o, s⟩ v).ext x else (w.ext x).setHere ⟨b, o, s⟩ v := by
  split
  · rename_i hb
    unfold World.setCell World.ext
    congr 1
    apply Array.ext_getElem?
    intro k
    simp only [Array.getElem?_modify]
    by_cases hk : k < w.heap.size
    · rw [Array.getElem?_append_left hk, Array.getElem?_append_left (by simpa using hk), Array.getElem?_modify]
    · rw [Array.getElem?_append_right (by omega), Array.getElem?_append_right (by simp; omega)]
      rw [if_neg (by omega)]
      simp
  · rfl
@[go_sem high] theorem setCell_alloc (w : World) (c : Array Value) (t : TypeId) (fr : Nat × Nat) (n i : Nat) (v : Value) : (w.alloc (.cells c t fr)).setCell ⟨n, i, none⟩ v =
    if n < w.heap.size then (w.setCell ⟨n, i, none⟩ v).alloc (.cells c t fr) else if n = w.heap.size then w.alloc (.cells (c.setIfInBounds i v) t fr) else (w.alloc (.cells c t fr)).setHere ⟨n, i, none⟩ v := by
  split
  · rename_i hn
    unfold World.setCell World.alloc
    congr 1
    apply Array.ext_getElem?
    intro k
    simp only [Array.getElem?_modify, Array.getElem?_push, Array.size_modify]
    by_cases hk : k = w.heap.size
    · subst hk
      simp [Nat.ne_of_lt hn]
    · simp [hk]
  · split
    · subst n
      unfold World.setCell World.alloc
      congr 1
      apply Array.ext_getElem?
      intro k
      simp only [Array.getElem?_modify, Array.getElem?_push]
      by_cases hk : k = w.heap.size
      · subst hk; simp
      · simp [hk, Ne.symm hk]
    · rfl
theorem i64_and (k : Nat) (hk : k < 63) (m : Int) (hm : (BitVec.ofInt 64 m).toNat = 2 ^ k - 1) (n : Int) : bits .and .i64 n m = n % (2 ^ k : Nat) := by
  have key : (BitVec.ofInt 64 n &&& BitVec.ofInt 64 m).toNat = (n % ((2 ^ 64 : Nat) : Int)).toNat % 2 ^ k := by
    rw [BitVec.toNat_and, BitVec.toNat_ofInt, hm, Nat.and_two_pow_sub_one_eq_mod]
  have e : ((2 : Nat) ^ 64 : Nat) = 2 ^ k * 2 ^ (64 - k) := by rw [← Nat.pow_add]; congr 1; omega
  have hp : 0 < 2 ^ k := Nat.two_pow_pos k
  have hlt : 2 ^ k ≤ 2 ^ 62 := Nat.pow_le_pow_right (by omega) (by omega)
  have h2 : ((n % ((2 ^ 64 : Nat) : Int)).toNat % 2 ^ k : Nat) = (n % ((2 ^ k : Nat) : Int)).toNat := by
    have a1 : 0 ≤ n % ((2 ^ 64 : Nat) : Int) := Int.emod_nonneg _ (by decide)
    have a2 : 0 ≤ n % ((2 ^ k : Nat) : Int) := Int.emod_nonneg _ (by omega)
    apply Int.ofNat.inj
    show (((n % ((2 ^ 64 : Nat) : Int)).toNat % 2 ^ k : Nat) : Int) = ((n % ((2 ^ k : Nat) : Int)).toNat : Int)
    rw [Int.natCast_emod, Int.toNat_of_nonneg a1, Int.toNat_of_nonneg a2, e, Int.natCast_mul, Int.emod_emod_of_dvd]
    exact Int.dvd_mul_right _ _
  show IntKind.i64.wrap ((BitVec.ofInt 64 n &&& BitVec.ofInt 64 m).toNat : Nat) = _
  have a2 : 0 ≤ n % ((2 ^ k : Nat) : Int) := Int.emod_nonneg _ (by omega)
  have a3 : n % ((2 ^ k : Nat) : Int) < ((2 ^ k : Nat) : Int) := Int.emod_lt_of_pos _ (by omega)
  rw [key, h2, Int.toNat_of_nonneg a2, IntKind.wrap_i64]
  have : (2 : Nat) ^ 62 = 4611686018427387904 := by decide
  omega
@[go_sem] theorem i64_and1023 (n : Int) : bits .and .i64 n 1023 = n % 1024 := i64_and 10 (by decide) 1023 (by decide) n
@[go_sem] theorem i64_and511 (n : Int) : bits .and .i64 n 511 = n % 512 := i64_and 9 (by decide) 511 (by decide) n
@[go_sem] theorem i64_and1 (n : Int) : bits .and .i64 n 1 = n % 2 := i64_and 1 (by decide) 1 (by decide) n
@[go_sem] theorem i64_and3 (n : Int) : bits .and .i64 n 3 = n % 4 := i64_and 2 (by decide) 3 (by decide) n
@[go_sem] theorem i64_and20 (n : Int) : bits .and .i64 n 1048575 = n % 1048576 := i64_and 20 (by decide) 1048575 (by decide) n
end ExtLaws
end Go
namespace Go.Proofs.Ytkcpgdkchglhhaa
open Go.RowKit
set_option linter.unusedSimpArgs false
set_option linter.unusedVariables false
theorem Kp.ext {a w : World} (h : Kp a w) (x : Later) : Kp a (w.ext x) := Kp.trans h (kp_ext w x)
theorem Kp.later {w w' : World} (h : Kp w w') : ∃ x : Later, w' = w.ext x := later_of_kp h
theorem ext_cell {w : World} {p : Addr} {v : Value} (h : w.cell? p = some v) (x : Later) : (w.ext x).cell? p = some v := by
  rw [← h]; exact Kp.cell (kp_ext w x) (World.block_lt_of_cell? w p h)
/-- A contract, in the walk's words. -/
theorem calls_ext {P : Program} {f : FuncId} {args : Array Value} {w : World} {v : Value} (h : Calls P f args w fun e w' => e = .returned v ∧ Kp w w') :
    Calls P f args w fun e w' => e = .returned v ∧ ∃ x : Later, w' = w.ext x := h.mono fun _ _ ⟨he, hk⟩ => ⟨he, hk.later⟩
theorem calls_ext2 {P : Program} {f : FuncId} {args : Array Value} {w : World} {x : Later} {v : Value} (h : Calls P f args (w.ext x) fun e w' => e = .returned v ∧ Kp (w.ext x) w') :
    Calls P f args (w.ext x) fun e w' => e = .returned v ∧ ∃ y : Later, w' = w.ext y := h.mono fun _ _ ⟨he, hk⟩ => ⟨he, (Kp.trans (kp_ext w x) hk).later⟩
/-- A region that draws its order, every operation quiet in the worlds later than this one. -/
theorem wp_region_ext {P : Program} {id : Nat} {Q : Exit → Act → World → Prop} {a : Act} {w : World} {l : List Oper} (hm : P.follows .mixedOrders = true) (hB : Region.lexB .any l.toArray = true)
    (h : wpQuiet P l.toArray (fun w' => ∃ x : Later, w' = w.ext x) (fun a' => ∀ w', (∃ x : Later, w' = w.ext x) → Q .normal a' w') l a) : (Code.region id l.toArray true).wp P Q a w :=
  wp_region_quiet (C := fun w' => ∃ x : Later, w' = w.ext x) hm hB (Kp.later (Kp.drew (Kp.refl w))) (by simpa using h)
end Go.Proofs.Ytkcpgdkchglhhaa
