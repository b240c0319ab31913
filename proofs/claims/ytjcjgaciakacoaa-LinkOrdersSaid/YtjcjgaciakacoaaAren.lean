/- An arena: byte rows that nobody writes any more. No condition. -/
import Derived.Test.YtjcjgaciakacoaaSepT
namespace Go.Proofs.Ytjcjgaciakacoaa
open Go.RowKit
set_option linter.unusedSimpArgs false
set_option linter.unusedVariables false
/-- Whatever world has the part h, v reads there as xs. -/
def Reads {α : Type} [Rep α] (h : Frag) (v : Value) (xs : List α) : Prop := ∀ w : World, (∀ n o, h n = some o → w.heap[n]? = some o) → Sl w v (Rep.sz α) xs.length (cellsOf xs)
def Aren (bs : List Bv) : Assn := fun h => ∀ b ∈ bs, Reads h b.v b.l
theorem sats_self {A : Assn} {h : Frag} (a : A h) {w : World} (hw : ∀ n o, h n = some o → w.heap[n]? = some o) : Sats w [A] (fun _ => none) := by
  refine ⟨h, a, fun n => .inr rfl, fun n o e => hw n o ?_⟩
  unfold Frag.add at e
  cases hh : h n with
  | none => rw [hh] at e; exact e
  | some x => rw [hh] at e; exact e
theorem RowT.reads {α : Type} [Rep α] {v : Value} {t : TypeId} {xs : List α} {h : Frag} (a : RowT v t xs h) : Reads h v xs := fun w hw => RdT.row (L := [RowT v t xs]) 0 rfl w _ (sats_self a hw)
theorem RoT.reads {α : Type} [Rep α] {v : Value} {xs : List α} {h : Frag} (a : RoT v xs h) : Reads h v xs := fun w hw => RdT.ro (L := [RoT v xs]) 0 rfl w _ (sats_self a hw)
theorem Reads.left {α : Type} [Rep α] {h k : Frag} {v : Value} {xs : List α} (r : Reads h v xs) : Reads (h.add k) v xs := fun w hw => r w fun n o e => hw n o (by unfold Frag.add; rw [e])
theorem Reads.right {α : Type} [Rep α] {h k : Frag} {v : Value} {xs : List α} (d : h.disj k) (r : Reads k v xs) : Reads (h.add k) v xs := fun w hw => r w fun n o e => hw n o (by
  unfold Frag.add
  rcases d n with h' | h'
  · rw [h']; exact e
  · rw [h'] at e; cases e)
theorem RdT.aren {L : List Assn} {bs : List Bv} {b : Bv} (i : Nat) (hi : L[i]? = some (Aren bs)) (hb : b ∈ bs) : RdT L b.v b.l := fun w F s => by
  obtain ⟨h, a, d, s'⟩ := Sats.pick hi s
  exact a b hb w (Sats.frame_left s')
theorem Aren.nil (L : List Assn) : Sub (Aren [] :: L) L := fun w F s => by
  refine ⟨fun _ => none, fun b hb => (by cases hb), fun n => Or.inl rfl, ?_⟩
  have : Frag.add (fun _ => none) F = F := by funext n; rfl
  rw [this]; exact s
theorem Aren.weak {bs bs' : List Bv} (h : ∀ b ∈ bs', b ∈ bs) (L : List Assn) : Sub (Aren bs' :: L) (Aren bs :: L) := Sub.cons' (fun x a b hb => a b (h b hb)) (Sub.refl L)
theorem add_assoc_comm {a b c : Frag} (d : b.disj a) : (a.add b).add c = b.add (a.add c) := by
  funext n
  unfold Frag.add
  rcases d n with h | h
  · rw [h]; try (cases a n <;> rfl)
  · rw [h]; try (cases b n <;> rfl)
theorem Aren.addA {A : Assn} {b : Bv} {bs : List Bv} (hA : ∀ h, A h → Reads h b.v b.l) (L : List Assn) : Sub (Aren (b :: bs) :: L) (A :: Aren bs :: L) := fun w F ⟨h, a, d, k, ak, dk, s⟩ => by
  rw [Frag.disj_add] at dk
  refine ⟨h.add k, fun x hx => ?_, ?_, ?_⟩
  · rcases List.mem_cons.1 hx with rfl | hx
    · exact (hA h a).left
    · exact (ak x hx).right (Frag.disj_symm dk.1)
  · intro n
    rcases d n with h1 | h1
    · rcases dk.2 n with h2 | h2
      · left; unfold Frag.add; rw [h1]; exact h2
      · exact .inr h2
    · exact .inr h1
  · rw [add_assoc_comm dk.1]; exact s
theorem Sub.fr (is : List Nat) {A C C' : List Assn} (e : fronts is C = C') (h : Sub A C') : Sub A C := by
  subst e; exact Sub.trans h (fronts_sub is C)
theorem Aren.add {b : Bv} {v : Value} {t : TypeId} {l : List UInt8} {bs : List Bv} (hv : b.v = v) (hl : b.l = l) (L : List Assn) : Sub (Aren (b :: bs) :: L) (RowT v t l :: Aren bs :: L) := by
  subst hv; subst hl
  exact Aren.addA (fun h a => a.reads) L
theorem Aren.addRo {b : Bv} {v : Value} {l : List UInt8} {bs : List Bv} (hv : b.v = v) (hl : b.l = l) (L : List Assn) : Sub (Aren (b :: bs) :: L) (RoT v l :: Aren bs :: L) := by
  subst hv; subst hl
  exact Aren.addA (fun h a => a.reads) L
end Go.Proofs.Ytjcjgaciakacoaa
