/- Memory in parts that lie apart; a walk whose state is a list of what is owned. No condition. -/
import Derived.Test.YtkcpgdkchglhhaaBase
namespace Go.Proofs.Ytkcpgdkchglhhaa
open Go.RowKit
set_option linter.unusedSimpArgs false
set_option linter.unusedVariables false
/-- A part of memory: some blocks. -/
def Frag := Nat → Option Obj
namespace Frag
def add (h k : Frag) : Frag := fun n => match h n with | some o => some o | none => k n
def disj (h k : Frag) : Prop := ∀ n, h n = none ∨ k n = none
def one (g : Nat) (o : Obj) : Frag := fun n => if n = g then some o else none
theorem disj_symm {h k : Frag} (d : h.disj k) : k.disj h := fun n => (d n).symm
theorem disj_add {a b c : Frag} : (a.disj (b.add c)) ↔ a.disj b ∧ a.disj c := by
  constructor
  · intro d
    refine ⟨fun n => ?_, fun n => ?_⟩
    · rcases d n with h | h
      · exact .inl h
      · right
        unfold add at h
        cases hb : b n with
        | none => rfl
        | some o => rw [hb] at h; cases h
    · rcases d n with h | h
      · exact .inl h
      · right
        unfold add at h
        cases hb : b n with
        | none => rw [hb] at h; exact h
        | some o => rw [hb] at h; cases h
  · rintro ⟨d1, d2⟩ n
    rcases d1 n with h | h
    · exact .inl h
    · rcases d2 n with h' | h'
      · exact .inl h'
      · right
        simp only [add, h, h']
theorem add_left_comm {a b c : Frag} (d : a.disj b) : a.add (b.add c) = b.add (a.add c) := by
  funext n
  unfold add
  rcases d n with h | h
  · rw [h]
  · rw [h]
theorem one_self (g : Nat) (o : Obj) : one g o g = some o := by simp [one]
theorem one_other {g n : Nat} (o : Obj) (h : n ≠ g) : one g o n = none := by simp [one, h]
end Frag
def Assn := Frag → Prop
/-- The world has what is listed, each in a part of its own, apart from F; and F. -/
def Sats (w : World) : List Assn → Frag → Prop
  | [], F => ∀ n o, F n = some o → w.heap[n]? = some o
  | A :: L, F => ∃ h : Frag, A h ∧ h.disj F ∧ Sats w L (h.add F)
namespace Sats
theorem frame {w : World} : ∀ {L : List Assn} {F : Frag}, Sats w L F → ∀ n o, F n = some o → w.heap[n]? = some o
  | [], _, h, n, o, e => h n o e
  | A :: L, F, ⟨h, _, d, s⟩, n, o, e => by
    refine frame s n o ?_
    unfold Frag.add
    rcases d n with h' | h'
    · rw [h']; exact e
    · rw [h'] at e; cases e
theorem frame_left {w : World} {L : List Assn} {h F : Frag} (s : Sats w L (h.add F)) : ∀ n o, h n = some o → w.heap[n]? = some o := fun n o e =>
  frame s n o (by unfold Frag.add; rw [e])
theorem pick {w : World} {A : Assn} : ∀ {L : List Assn} {F : Frag} {i : Nat}, L[i]? = some A → Sats w L F → ∃ h : Frag, A h ∧ h.disj F ∧ Sats w (L.eraseIdx i) (h.add F)
  | [], _, _, e, _ => by simp at e
  | B :: L, F, 0, e, ⟨h, a, d, s⟩ => by
    simp at e
    subst e
    exact ⟨h, a, d, s⟩
  | B :: L, F, i + 1, e, ⟨h, a, d, s⟩ => by
    simp at e
    obtain ⟨k, ak, dk, sk⟩ := pick e s
    rw [Frag.disj_add] at dk
    refine ⟨k, ak, dk.2, h, a, ?_, ?_⟩
    · rw [Frag.disj_add]; exact ⟨Frag.disj_symm dk.1, d⟩
    · show Sats w (L.eraseIdx i) _
      rw [Frag.add_left_comm (Frag.disj_symm dk.1)]; exact sk
theorem put {w : World} {A : Assn} : ∀ {L : List Assn} {F : Frag} {i : Nat}, i < L.length → ∀ {h : Frag}, A h → h.disj F → Sats w (L.eraseIdx i) (h.add F) → Sats w (L.set i A) F
  | [], _, _, e, _, _, _, _ => by simp at e
  | B :: L, F, 0, e, h, a, d, s => ⟨h, a, d, s⟩
  | B :: L, F, i + 1, e, h, a, d, s => by
    obtain ⟨k, ak, dk, sk⟩ := s
    rw [Frag.disj_add] at dk
    refine ⟨k, ak, dk.2, ?_⟩
    refine put (by simpa using e) a ?_ ?_
    · rw [Frag.disj_add]; exact ⟨Frag.disj_symm dk.1, d⟩
    · rw [Frag.add_left_comm (Frag.disj_symm dk.1)]; exact sk
theorem world {w w' : World} (hw : ∀ (n : Nat) (o : Obj), w.heap[n]? = some o → w'.heap[n]? = some o) : ∀ {L : List Assn} {F : Frag}, Sats w L F → Sats w' L F
  | [], _, s => fun n o e => hw n o (s n o e)
  | _ :: _, _, ⟨h, a, d, s⟩ => ⟨h, a, d, world hw s⟩
theorem less {w : World} : ∀ {L : List Assn} {h F : Frag}, Sats w L (h.add F) → h.disj F → Sats w L F
  | [], h, F, s, d => fun n o e => s n o (by
      unfold Frag.add
      rcases d n with h' | h'
      · rw [h']; exact e
      · rw [h'] at e; cases e)
  | A :: L, h, F, ⟨k, a, dk, s⟩, d => by
    rw [Frag.disj_add] at dk
    refine ⟨k, a, dk.2, ?_⟩
    rw [Frag.add_left_comm dk.1] at s
    exact less s (by rw [Frag.disj_add]; exact ⟨Frag.disj_symm dk.1, d⟩)
/-- One part of the memory is written anew. -/
theorem swap {w w' : World} {h h' : Frag} (hd : ∀ n, h n = none → h' n = none) (hw : ∀ (n : Nat) (o : Obj), h n = none → w.heap[n]? = some o → w'.heap[n]? = some o) (hh : ∀ n o, h' n = some o → w'.heap[n]? = some o) :
    ∀ {L : List Assn} {F : Frag}, h.disj F → Sats w L (h.add F) → Sats w' L (h'.add F)
  | [], F, d, s => fun n o e => by
    unfold Frag.add at e
    cases hn : h' n with
    | some o' => rw [hn] at e; simp at e; subst e; exact hh n _ hn
    | none =>
      rw [hn] at e
      simp at e
      rcases d n with hl | hr
      · exact hw n o hl (s n o (by unfold Frag.add; rw [hl]; exact e))
      · rw [hr] at e; cases e
  | A :: L, F, d, ⟨k, a, dk, s⟩ => by
    rw [Frag.disj_add] at dk
    refine ⟨k, a, ?_, ?_⟩
    · rw [Frag.disj_add]
      refine ⟨fun n => ?_, dk.2⟩
      rcases dk.1 n with x | x
      · exact .inl x
      · exact .inr (hd n x)
    · rw [Frag.add_left_comm dk.1] at s
      have := swap hd hw hh (F := k.add F) (by rw [Frag.disj_add]; exact ⟨Frag.disj_symm dk.1, d⟩) s
      rwa [Frag.add_left_comm] at this
      intro n
      rcases dk.1 n with x | x
      · exact .inr x
      · exact .inl (hd n x)
theorem disj_new {w : World} {L : List Assn} {F : Frag} (s : Sats w L F) (o : Obj) : (Frag.one w.heap.size o).disj F := by
  intro n
  by_cases hn : n = w.heap.size
  · right
    cases hf : F n with
    | none => rfl
    | some x =>
      have := frame s n x hf
      rw [Array.getElem?_eq_none (by omega)] at this
      cases this
  · exact .inl (Frag.one_other o hn)
theorem alloc_add {w : World} (o : Obj) : ∀ {L : List Assn} {F : Frag}, Sats w L F → Sats (w.alloc o) L ((Frag.one w.heap.size o).add F)
  | [], F, s => fun n x e => by
    unfold Frag.add at e
    by_cases hn : n = w.heap.size
    · subst hn
      rw [Frag.one_self] at e
      simp at e
      subst e
      exact heap_alloc_new w o
    · rw [Frag.one_other o hn] at e
      simp at e
      have := s n x e
      have hlt : n < w.heap.size := (Array.getElem?_eq_some_iff.1 this).1
      rw [Below.heap_alloc w o n hlt]
      exact this
  | A :: L, F, ⟨h, a, d, s⟩ => by
    have hn := disj_new s o
    rw [Frag.disj_add] at hn
    refine ⟨h, a, ?_, ?_⟩
    · rw [Frag.disj_add]; exact ⟨Frag.disj_symm hn.1, d⟩
    · rw [Frag.add_left_comm (Frag.disj_symm hn.1)]
      exact alloc_add o s
theorem alloc {w : World} {L : List Assn} {F : Frag} {A : Assn} (o : Obj) (s : Sats w L F) (a : A (Frag.one w.heap.size o)) : Sats (w.alloc o) (A :: L) F :=
  ⟨_, a, disj_new s o, alloc_add o s⟩
theorem alloc_drop {w : World} {L : List Assn} {F : Frag} (o : Obj) (s : Sats w L F) : Sats (w.alloc o) L F := less (alloc_add o s) (disj_new s o)
theorem drew {w : World} {L : List Assn} {F : Frag} (s : Sats w L F) : Sats w.drew L F := world (w := w) (w' := w.drew) (fun _ _ h => h) s
theorem mono1 {w : World} {A B : Assn} {L : List Assn} {F : Frag} (s : Sats w (A :: L) F) (h : ∀ x, A x → B x) : Sats w (B :: L) F :=
  let ⟨x, a, d, s⟩ := s; ⟨x, h x a, d, s⟩
theorem front {w : World} {A : Assn} {L : List Assn} {F : Frag} {i : Nat} (e : L[i]? = some A) (s : Sats w L F) : Sats w (A :: L.eraseIdx i) F := pick e s
end Sats
/-- Whatever has L has L'. -/
def Sub (L' L : List Assn) : Prop := ∀ w F, Sats w L F → Sats w L' F
theorem Sub.refl (L : List Assn) : Sub L L := fun _ _ s => s
theorem Sub.drop {L' L : List Assn} (A : Assn) (h : Sub L' L) : Sub L' (A :: L) := fun w F ⟨k, _, d, s⟩ => h w F (Sats.less s d)
theorem Sub.cons {L' L : List Assn} (A : Assn) (h : Sub L' L) : Sub (A :: L') (A :: L) := fun w F ⟨k, a, d, s⟩ => ⟨k, a, d, h w _ s⟩
theorem Sub.cons' {L' L : List Assn} {A B : Assn} (hab : ∀ x, A x → B x) (h : Sub L' L) : Sub (B :: L') (A :: L) := fun w F ⟨k, a, d, s⟩ => ⟨k, hab k a, d, h w _ s⟩
theorem Sub.trans {A B C : List Assn} (h : Sub A B) (k : Sub B C) : Sub A C := fun w F s => h w F (k w F s)
theorem Sub.front {L : List Assn} {A : Assn} (i : Nat) (e : L[i]? = some A) : Sub (A :: L.eraseIdx i) L := fun _ _ s => Sats.front e s
/-- The streams are as they were. -/
def Rest (w w' : World) : Prop := w'.os = w.os ∧ w'.tape = w.tape ∧ w'.output = w.output
theorem Rest.refl (w : World) : Rest w w := ⟨rfl, rfl, rfl⟩
theorem Rest.trans {a b c : World} (h : Rest a b) (k : Rest b c) : Rest a c := ⟨k.1.trans h.1, k.2.1.trans h.2.1, k.2.2.trans h.2.2⟩
theorem Rest.drew {a b : World} (h : Rest a b) : Rest a b.drew := h
theorem Rest.alloc {a b : World} (h : Rest a b) (o : Obj) : Rest a (b.alloc o) := h
theorem Rest.setCell {a b : World} (h : Rest a b) (p : Addr) (v : Value) : Rest a (b.setCell p v) := h
/-- The temporaries, as a function. -/
def Agree (D : List Deferred) (n : Nat) (a : Act) (f : Nat → Value) : Prop := a.defers = D ∧ a.tmps.size = n ∧ ∀ t, a.tmps.getD t undef = f t
@[reducible] def upd (f : Nat → Value) (d : Nat) (v : Value) : Nat → Value := fun t => match Nat.beq t d with | true => v | false => f t
@[reducible] def evalF (f : Nat → Value) : Operand → Value
  | .tmp t => f t
  | .const v => v
  | .global g => .pointer (some ⟨g, 0, none⟩)
  | .func g => .func (.func g) #[] #[]
theorem upd_self (f : Nat → Value) (d : Nat) (v : Value) : upd f d v d = v := by simp [upd]
theorem upd_other (f : Nat → Value) {d t : Nat} (v : Value) (h : t ≠ d) : upd f d v t = f t := by
  unfold upd
  cases hb : Nat.beq t d with
  | true => exact absurd (Nat.eq_of_beq_eq_true hb) h
  | false => simp only [hb]
theorem Agree.eval {D : List Deferred} {n : Nat} {a : Act} {f : Nat → Value} (h : Agree D n a f) : a.eval = evalF f := by
  funext x
  cases x with
  | tmp t => exact h.2.2 t
  | _ => rfl
theorem Agree.put {D : List Deferred} {n : Nat} {a : Act} {f : Nat → Value} (h : Agree D n a f) {d : Nat} (hd : d < n) (v : Value) : Agree D n (a.put (some d) v) (upd f d v) := by
  obtain ⟨h1, h2, h3⟩ := h
  refine ⟨h1, by simpa [Act.put] using h2, fun t => ?_⟩
  simp only [Act.put]
  by_cases ht : t = d
  · subst ht
    rw [upd_self]
    simp [Array.getD, h2, hd]
  · rw [upd_other _ _ ht, ← h3 t]
    simp only [Array.getD_eq_getD_getElem?, Array.getElem?_setIfInBounds_ne (Ne.symm ht)]
theorem Agree.put_none {D : List Deferred} {n : Nat} {a : Act} {f : Nat → Value} (h : Agree D n a f) (v : Value) : Agree D n (a.put none v) f := h
def Post := Exit → (Nat → Value) → List Assn → Prop
/-- Where the walk stands. -/
def Here (D : List Deferred) (n : Nat) (F : Frag) (w0 : World) (f0 : Nat → Value) (ws : Nat → Bool) (a : Act) (w : World) (f : Nat → Value) (L : List Assn) : Prop :=
  Rest w0 w ∧ Agree D n a f ∧ Sats w L F ∧ ∀ t, ws t = false → f t = f0 t
/-- The walk's post, read off the world. -/
def Lift (D : List Deferred) (n : Nat) (F : Frag) (w0 : World) (f0 : Nat → Value) (ws : Nat → Bool) (Q : Post) : Exit → Act → World → Prop :=
  fun e a w => ∃ f L, Here D n F w0 f0 ws a w f L ∧ Q e f L
/-- The slots that code writes. -/
def writesL : List Oper → List Nat
  | [] => []
  | o :: l => match o.dst with | some d => d :: writesL l | none => writesL l
def writes : Code → List Nat
  | .region _ ops _ => writesL ops.toList
  | .seq a b => writes a ++ writes b
  | .cond _ a b => writes a ++ writes b
  | .block _ c => writes c
  | .loop c => writes c
  | .scope c => writes c
  | .rangeFunc _ _ a b => writes a ++ writes b
  | _ => []
def Within (c : Code) (ws : Nat → Bool) : Prop := ∀ d, d ∈ writes c → ws d = true
/-- c, begun with the temporaries f and owning L, ends in Q. -/
def Ex (P : Program) (n : Nat) (c : Code) (Q : Post) (f : Nat → Value) (L : List Assn) : Prop :=
  ∀ D F w0 f0 ws a w, Here D n F w0 f0 ws a w f L → Within c ws → c.wp P (Lift D n F w0 f0 ws Q) a w
def thn (P : Program) (n : Nat) (c : Code) (Q : Post) : Post
  | .normal, f, L => Ex P n c Q f L
  | e, f, L => Q e f L
def inb (id : Nat) (Q : Post) : Post
  | .exit k, f, L => match Nat.beq k id with | true => Q .normal f L | false => Q (.exit k) f L
  | e, f, L => Q e f L
section
variable {P : Program} {n : Nat} {Q : Post} {f : Nat → Value} {L : List Assn}
theorem Ex.mono {c : Code} {Q' : Post} (h : Ex P n c Q' f L) (hq : ∀ e f L, Q' e f L → Q e f L) : Ex P n c Q f L := fun D F w0 f0 ws a w H hc =>
  wp_mono (h D F w0 f0 ws a w H hc) fun e a w ⟨f, L, H, q⟩ => ⟨f, L, H, hq e f L q⟩
theorem Ex.sub {c : Code} {L' : List Assn} (h : Ex P n c Q f L') (hs : Sub L' L) : Ex P n c Q f L := fun D F w0 f0 ws a w ⟨r, ag, s, k⟩ hc => h D F w0 f0 ws a w ⟨r, ag, hs w F s, k⟩ hc
theorem Ex.seq {x y : Code} (h : Ex P n x (thn P n y Q) f L) : Ex P n (.seq x y) Q f L := fun D F w0 f0 ws a w H hc =>
  wp_seq (wp_mono (h D F w0 f0 ws a w H fun d hd => hc d (List.mem_append_left _ hd)) fun e a w ⟨f, L, H, q⟩ => by
    cases e with
    | normal => exact q D F w0 f0 ws a w H fun d hd => hc d (List.mem_append_right _ hd)
    | _ => exact ⟨f, L, H, q⟩)
theorem Ex.skip (h : Q .normal f L) : Ex P n .skip Q f L := fun D F w0 f0 ws a w H hc => wp_skip ⟨f, L, H, h⟩
theorem Ex.label {l : Nat} (h : Q .normal f L) : Ex P n (.label l) Q f L := fun D F w0 f0 ws a w H hc => wp_label ⟨f, L, H, h⟩
theorem Ex.exit {id : Nat} (h : Q (.exit id) f L) : Ex P n (.exit id) Q f L := fun D F w0 f0 ws a w H hc => wp_exit ⟨f, L, H, h⟩
theorem Ex.ret (h : Q .ret f L) : Ex P n .ret Q f L := fun D F w0 f0 ws a w H hc => wp_ret ⟨f, L, H, h⟩
theorem Ex.block {id : Nat} {c : Code} (h : Ex P n c (inb id Q) f L) : Ex P n (.block id c) Q f L := fun D F w0 f0 ws a w H hc =>
  wp_block (wp_mono (h D F w0 f0 ws a w H hc) fun e a w ⟨f, L, H, q⟩ => by
    cases e with
    | exit k =>
      simp only [Exit.inBlock]
      by_cases hk : k = id
      · rw [if_pos hk]
        subst hk
        refine ⟨f, L, H, ?_⟩
        simp only [inb] at q
        rw [show Nat.beq k k = true by simp] at q
        exact q
      · rw [if_neg hk]
        refine ⟨f, L, H, ?_⟩
        simp only [inb] at q
        cases hb : Nat.beq k id with
        | true => exact absurd (Nat.eq_of_beq_eq_true hb) hk
        | false => rw [hb] at q; exact q
    | _ => exact ⟨f, L, H, q⟩)
theorem Ex.cond_t {c : Operand} {x y : Code} (hc : evalF f c = .bool true) (h : Ex P n x Q f L) : Ex P n (.cond c x y) Q f L := fun D F w0 f0 ws a w H hw =>
  wp_cond_true (by rw [H.2.1.eval]; exact hc) (h D F w0 f0 ws a w H fun d hd => hw d (List.mem_append_left _ hd))
theorem Ex.cond_f {c : Operand} {x y : Code} (hc : evalF f c = .bool false) (h : Ex P n y Q f L) : Ex P n (.cond c x y) Q f L := fun D F w0 f0 ws a w H hw =>
  wp_cond_false (by rw [H.2.1.eval]; exact hc) (h D F w0 f0 ws a w H fun d hd => hw d (List.mem_append_right _ hd))
theorem Ex.cond_b {c : Operand} {x y : Code} {b : Bool} (hc : evalF f c = .bool b) (ht : b = true → Ex P n x Q f L) (hf : b = false → Ex P n y Q f L) : Ex P n (.cond c x y) Q f L := by
  cases b with
  | true => exact Ex.cond_t hc (ht rfl)
  | false => exact Ex.cond_f hc (hf rfl)
theorem Ex.cond_d {c : Operand} {x y : Code} {p : Prop} [i : Decidable p] (hc : evalF f c = .bool (decide p)) (ht : p → Ex P n x Q f L) (hf : ¬p → Ex P n y Q f L) : Ex P n (.cond c x y) Q f L :=
  Ex.cond_b hc (fun h => ht (of_decide_eq_true h)) (fun h => hf (of_decide_eq_false h))
end
def upds (f : Nat → Value) : List Nat → List Value → Nat → Value
  | d :: ds, v :: vs => upd (upds f ds vs) d v
  | _, _ => f
theorem upds_self (f : Nat → Value) : ∀ (ds : List Nat), upds f ds (ds.map f) = f
  | [] => rfl
  | d :: ds => by
    show upd (upds f ds (ds.map f)) d (f d) = f
    rw [upds_self f ds]
    funext t
    by_cases h : t = d
    · subst h; rw [upd_self]
    · rw [upd_other _ _ h]
/-- f, but what is in the slots ws, which is anything. -/
def havoc (f g : Nat → Value) (ws : List Nat) : Nat → Value := fun t => match ws.any (Nat.beq t) with | true => g t | false => f t
theorem least_nat (p : Nat → Prop) (h : ∃ m, p m) : ∃ m, p m ∧ ∀ k, p k → m ≤ k := by
  obtain ⟨m, hm⟩ := h
  induction m using Nat.strongRecOn with
  | _ m ih =>
    by_cases hk : ∃ k, k < m ∧ p k
    · obtain ⟨k, hk, pk⟩ := hk
      exact ih k hk pk
    · refine ⟨m, hm, fun k pk => ?_⟩
      rcases Nat.lt_or_ge k m with h | h
      · exact absurd ⟨k, h, pk⟩ hk
      · exact h
open Classical in
noncomputable def leastOf (p : Nat → Prop) : Nat := if h : ∃ m, p m then Classical.choose (least_nat p h) else 0
theorem leastOf_spec {p : Nat → Prop} {m : Nat} (h : p m) : p (leastOf p) ∧ leastOf p ≤ m := by
  have hx : ∃ m, p m := ⟨m, h⟩
  unfold leastOf
  rw [dif_pos hx]
  have := Classical.choose_spec (least_nat p hx)
  exact ⟨this.1, this.2 m h⟩
def rnd (I : Nat → List Value → List Assn → Prop) (m : Nat) (ss : List Nat) (Q : Post) : Post
  | .normal, f, L => ∃ m' L', m' < m ∧ Sub L' L ∧ I m' (ss.map f) L'
  | e, f, L => Q e f L
section
variable {P : Program} {n : Nat} {Q : Post} {f : Nat → Value} {L : List Assn}
/-- A loop: the slots ss are in the relation I (with a measure m), with what is owned; every other slot that the round writes is anything; whatever else is as ahead of it. -/
theorem Ex.loop {c : Code} (ss : List Nat) (I : Nat → List Value → List Assn → Prop) (m0 : Nat) (h0 : I m0 (ss.map f) L)
    (round : ∀ (m : Nat) (vs : List Value) (g : Nat → Value) (L' : List Assn), I m vs L' → Ex P n c (rnd I m ss Q) (upds (havoc f g (writes c)) ss vs) L') : Ex P n (.loop c) Q f L := fun D F w0 f0 ws a w H hc => by
  let J : Act → World → Nat → Prop := fun a w m => ∃ f' L', Here D n F w0 f (fun t => (writes c).any (Nat.beq t)) a w f' L' ∧ I m (ss.map f') L'
  obtain ⟨r, ag, s, hf0⟩ := H
  refine wp_mono (Q := Lift D n F w0 f (fun t => (writes c).any (Nat.beq t)) Q) ?_ ?_
  · refine wp_loop (fun a w => ∃ m, J a w m) (fun a w => leastOf (J a w)) ⟨m0, f, L, ⟨r, ag, s, fun _ _ => rfl⟩, h0⟩ ?_
    rintro a w ⟨m, hJ⟩
    have hl := (leastOf_spec hJ).1
    obtain ⟨f', L', H, hI⟩ := hl
    have hf := H.2.2.2
    have e : f' = upds (havoc f f' (writes c)) ss (ss.map f') := by
      have : havoc f f' (writes c) = f' := by
        funext t
        unfold havoc
        cases hb : (writes c).any (Nat.beq t) with
        | true => simp only [hb]
        | false => simp only [hb]; exact (hf t hb).symm
      rw [this, upds_self]
    have h1 := round _ _ f' L' hI
    rw [← e] at h1
    refine wp_mono (h1 D F w0 f _ a w H (fun d hd => by simp only [List.any_eq_true]; exact ⟨d, hd, by simp⟩)) ?_
    rintro e a w ⟨f2, L2, H, q⟩
    cases e with
    | normal =>
      obtain ⟨m', L3, hm', hs3, hI'⟩ := q
      have hJ' : J a w m' := ⟨f2, L3, ⟨H.1, H.2.1, hs3 w F H.2.2.1, H.2.2.2⟩, hI'⟩
      exact ⟨⟨m', hJ'⟩, Nat.lt_of_le_of_lt (leastOf_spec hJ').2 hm'⟩
    | _ => exact ⟨f2, L2, H, q⟩
  · rintro e a w ⟨f2, L2, ⟨r, ag, s, k⟩, q⟩
    refine ⟨f2, L2, ⟨r, ag, s, fun t ht => ?_⟩, q⟩
    rw [← hf0 t ht]
    refine k t ?_
    cases hb : (writes c).any (Nat.beq t) with
    | false => exact hb
    | true =>
      simp only [List.any_eq_true] at hb
      obtain ⟨d, hd, hdt⟩ := hb
      have := Nat.eq_of_beq_eq_true hdt
      subst this
      rw [hc t hd] at ht
      cases ht
/-- A loop whose rounds leave what is owned. -/
theorem Ex.loopS {c : Code} (ss : List Nat) (I : Nat → List Value → Prop) (m0 : Nat) (h0 : I m0 (ss.map f))
    (round : ∀ (m : Nat) (vs : List Value) (g : Nat → Value), I m vs → Ex P n c (rnd (fun m vs L' => I m vs ∧ L' = L) m ss Q) (upds (havoc f g (writes c)) ss vs) L) : Ex P n (.loop c) Q f L :=
  Ex.loop ss (fun m vs L' => I m vs ∧ L' = L) m0 ⟨h0, rfl⟩ fun m vs g L' ⟨h, e⟩ => by subst e; exact round m vs g h
end
end Go.Proofs.Ytkcpgdkchglhhaa
