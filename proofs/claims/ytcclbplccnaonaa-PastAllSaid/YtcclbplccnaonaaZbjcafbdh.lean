/- Several texts, one behind the other; each says in its head what it proves. No condition. -/
import Derived.Test.YtcclbplccnaonaaZgbjmogba
import Derived.Test.YtcclbplccnaonaaZemefjcfc
import Derived.Test.YtcclbplccnaonaaZkbdnacgf
import Derived.Test.YtcclbplccnaonaaChecked
import Derived.Test.YtcclbplccnaonaaZpgmlloom
/- The things of this program, as Lean's. No condition. -/
namespace Go.Proofs.Ytcclbplccnaonaa
open Go.RowKit
set_option linter.unusedSimpArgs false
set_option linter.unusedVariables false
/-- An edit. -/
structure Ed where
  kind : Int
  key : List UInt8
  label : Int
  value : List UInt8
deriving DecidableEq
def Ed.cells (e : Ed) : List Value := [.int .i64 e.kind, .string (S e.key), .int .i64 e.label, .string (S e.value)]
def Ed.val (e : Ed) : Value := .agg e.cells.toArray
instance : Rep Ed := ⟨4, Ed.cells, by decide, fun _ => rfl, fun _ => rfl⟩
def sumB (l : List UInt8) : Int := (l.map fun b => (b.toNat : Int)).sum
theorem sumB_bd (l : List UInt8) : 0 ≤ sumB l ∧ sumB l ≤ 255 * l.length := by
  induction l with
  | nil => simp [sumB]
  | cons a l ih =>
    have := a.toNat_lt
    simp [sumB] at ih ⊢; omega
theorem sumB_succ (l : List UInt8) (k : Nat) (h : k < l.length) : sumB (l.take (k + 1)) = sumB (l.take k) + (l[k].toNat : Int) := by
  rw [List.take_succ_eq_append_getElem h]
  simp only [sumB, List.map_append, List.sum_append]
  simp
def fitKey (j : Int) : List UInt8 := if j = 0 then [97, 110, 110] else if j = 1 then [98, 111, 98] else [99, 121]
def fitValue (j : Int) : List UInt8 := if j = 0 then [49] else if j = 1 then [116, 119, 111] else if j = 2 then [0, 255] else [116, 119, 101, 108, 118, 101, 32, 98, 121, 116, 101, 115]
/-- An edit that may be, of anything. -/
def Ed.fit (e : Ed) : Ed :=
  ⟨1 + (e.kind.tmod 5 + 5) % 5, fitKey (sumB e.key % 3), if 2 < 1 + (e.kind.tmod 5 + 5) % 5 then e.label % 2 else 0, if 2 < 1 + (e.kind.tmod 5 + 5) % 5 then fitValue (sumB e.value % 4) else []⟩
theorem tmod5 (n : Int) : -5 < n.tmod 5 ∧ n.tmod 5 < 5 := ⟨Int.lt_tmod_of_pos n (by decide), Int.tmod_lt_of_pos n (by decide)⟩
end Go.Proofs.Ytcclbplccnaonaa
/- Clocks as five numbers. No condition. -/
namespace Go.Proofs.Ytcclbplccnaonaa
open Go.RowKit
set_option linter.unusedSimpArgs false
set_option linter.unusedVariables false
structure Clk where
  a : Int
  b : Int
  c : Int
  d : Int
  e : Int
  deriving DecidableEq
def Clk.get (k : Clk) (i : Nat) : Int := match i with | 0 => k.a | 1 => k.b | 2 => k.c | 3 => k.d | 4 => k.e | _ => 0
@[reducible] def Clk.val (k : Clk) : Value := .agg #[.int .i64 k.a, .int .i64 k.b, .int .i64 k.c, .int .i64 k.d, .int .i64 k.e]
def Clk.join (x y : Clk) : Clk := ⟨max x.a y.a, max x.b y.b, max x.c y.c, max x.d y.d, max x.e y.e⟩
def Clk.le (x y : Clk) : Bool := x.a ≤ y.a && x.b ≤ y.b && x.c ≤ y.c && x.d ≤ y.d && x.e ≤ y.e
def Clk.set (k : Clk) (i : Nat) (v : Int) : Clk := match i with | 0 => { k with a := v } | 1 => { k with b := v } | 2 => { k with c := v } | 3 => { k with d := v } | 4 => { k with e := v } | _ => k
def Clk.zero : Clk := ⟨0, 0, 0, 0, 0⟩
def Clk.next (k : Clk) (r : Int) : Clk × Int := if r < 0 ∨ 5 ≤ r then (Clk.zero, 1) else if 1048576 ≤ k.get r.toNat then (Clk.zero, 25) else (k.set r.toNat (k.get r.toNat + 1), 0)
def Clk.has (k : Clk) (r n : Int) : Bool := 0 ≤ r && r < 5 && 1 ≤ n && n ≤ k.get r.toNat
end Go.Proofs.Ytcclbplccnaonaa
/- Events. No condition. -/
namespace Go.Proofs.Ytcclbplccnaonaa
open Go.RowKit
set_option linter.unusedSimpArgs false
set_option linter.unusedVariables false
structure Ev where
  r : Int
  n : Int
  c : Clk
  h : Int
  ed : Ed
deriving DecidableEq
instance : Rep Clk := ⟨5, fun k => [.int .i64 k.a, .int .i64 k.b, .int .i64 k.c, .int .i64 k.d, .int .i64 k.e], by decide, fun _ => rfl, fun _ => rfl⟩
instance : Rep Ev := ⟨12, fun e => [.int .i64 e.r, .int .i64 e.n, .int .i64 e.c.a, .int .i64 e.c.b, .int .i64 e.c.c, .int .i64 e.c.d, .int .i64 e.c.e, .int .i64 e.h, .int .i64 e.ed.kind, .string (S e.ed.key), .int .i64 e.ed.label, .string (S e.ed.value)], by decide, fun _ => rfl, fun _ => rfl⟩
def Ev.zero : Ev := ⟨0, 0, ⟨0, 0, 0, 0, 0⟩, 0, ⟨0, [], 0, []⟩⟩
instance : Inhabited Ev := ⟨Ev.zero⟩
instance : EqT Try.prog 31 Ev := ⟨6, [.i .i64, .i .i64, .i .i64, .i .i64, .i .i64, .i .i64, .i .i64, .i .i64, .i .i64, .s, .i .i64, .s], by kernel_rfl, by kernel_rfl, by kernel_rfl, by kernel_rfl, fun _ => rfl, fun a b h => by
  obtain ⟨a1, a2, ⟨a3, a4, a5, a6, a7⟩, a8, ⟨a9, a10, a11, a12⟩⟩ := a
  obtain ⟨b1, b2, ⟨b3, b4, b5, b6, b7⟩, b8, ⟨b9, b10, b11, b12⟩⟩ := b
  simp only [Rep.cells, List.cons.injEq, Value.int.injEq, Value.string.injEq, S_inj, true_and, and_true] at h
  simp [h]⟩
instance : ZRep Try.prog 31 Ev := ⟨Ev.zero, by kernel_rfl, by kernel_rfl⟩
end Go.Proofs.Ytcclbplccnaonaa
/- Slices of events: Same. No condition. -/
namespace Go.Proofs.Ytcclbplccnaonaa
open Go.RowKit
set_option linter.unusedSimpArgs false
set_option linter.unusedVariables false
@[reducible] def Evs_ (v : Value) (l : List Ev) : Assn := RowT v 31 l
set_option maxRecDepth 20000 attribute [local irreducible] Ex ExL Fn thn inb rnd fin meet Tab Mix mxEnd Val Sats RdT Rd RowT Row Blk Sub Fac ResV RVal Evs subs subs3 Hid Capd
theorem same_fn (va vb : Value) (l : List Ev) (M : List Assn) (ha : RdT M va l) (hb : RdT M vb l) (hl : l.length ≤ 1000000000) : Fn Try.prog 21 #[va, vb] M fun r L' => r = .bool true ∧ L' = M := by
  refine Fn.of_ex Try.func21 rfl Try.ntmps21 rfl ?_
  (refine rn ?_; (repeat (first | intro (g : Nat) | intro (v : Value) | intro (o : Value.oneCell' _ = true) | intro (cs : List Value) | intro (hcs : _ = List.set _ _ _) | intro (zs : List _) | intro (hzs : _))))
  refine Ex.loopS [5] (fun m vs => ∃ (i : Nat), i ≤ l.length ∧ m = l.length - i ∧ vs = [.int .i64 i]) l.length ⟨0, by omega, by omega, rfl⟩ ?_
  rintro m vs g1 ⟨i, hi, rfl, rfl⟩
  by_cases hlt : i < l.length
  · (refine rn ?_; (repeat (first | intro (g : Nat) | intro (v : Value) | intro (o : Value.oneCell' _ = true) | intro (cs : List Value) | intro (hcs : _ = List.set _ _ _) | intro (zs : List _) | intro (hzs : _))))
    (refine Ex.mixA 9 _ rfl (by kernel_rfl) (Fac.refl _) ?_; (refine mn ?_; (repeat (first | intro (g : Nat) | intro (v : Value) | intro (o : Value.oneCell' _ = true) | intro (cs : List Value) | intro (hcs : _ = List.set _ _ _) | intro (zs : List _) | intro (hzs : _)))))
    (refine rn ?_; (repeat (first | intro (g : Nat) | intro (v : Value) | intro (o : Value.oneCell' _ = true) | intro (cs : List Value) | intro (hcs : _ = List.set _ _ _) | intro (zs : List _) | intro (hzs : _))))
    exact rnd_n ⟨l.length - (i + 1), _, by omega, Sub.refl _, ⟨i + 1, by omega, by omega, lcons (vint (by omega)) rfl⟩, rfl⟩
  · (refine rn ?_; (repeat (first | intro (g : Nat) | intro (v : Value) | intro (o : Value.oneCell' _ = true) | intro (cs : List Value) | intro (hcs : _ = List.set _ _ _) | intro (zs : List _) | intro (hzs : _))))
    (first | refine fin_ret rS ?_ | refine fin_norm rS ?_)
    exact ⟨_, rB, rfl, rfl⟩
end Go.Proofs.Ytcclbplccnaonaa
/- Slices of events: Clone, Delete, Same. No condition. -/
namespace Go.Proofs.Ytcclbplccnaonaa
open Go.RowKit
set_option linter.unusedSimpArgs false
set_option linter.unusedVariables false
set_option maxRecDepth 20000 attribute [local irreducible] Ex ExL Fn thn inb rnd fin meet Tab Mix mxEnd Val Sats RdT Rd RowT Row Blk Sub Fac ResV RVal Evs subs subs3 Hid Capd
theorem clone_evs (v0 : Value) (xs : List Ev) (L : List Assn) (hr : RdT L v0 xs) (hb : xs.length ≤ 1000000000) : Fn Try.prog 46 #[v0] L fun r L' => r.oneCell' = true ∧ L' = Evs_ r xs :: L := by
  refine Fn.of_ex Try.func46 rfl Try.ntmps46 rfl ?_
  refine Ex.know hr.ca ?_
  rintro ⟨a, c, rfl, hn⟩
  cases a with
  | none =>
    obtain ⟨rfl, hb0⟩ := hn rfl
    obtain rfl := List.eq_nil_of_length_eq_zero hb0
    (refine rn ?_; (repeat (first | intro (g : Nat) | intro (v : Value) | intro (o : Value.oneCell' _ = true) | intro (cs : List Value) | intro (hcs : _ = List.set _ _ _) | intro (zs : List _) | intro (hzs : _))))
    (first | refine fin_ret rS ?_ | refine fin_norm rS ?_)
    exact ⟨_, Sub.empty none _ _, rfl, rfl⟩
  | some a =>
    (refine rn ?_; (repeat (first | intro (g : Nat) | intro (v : Value) | intro (o : Value.oneCell' _ = true) | intro (cs : List Value) | intro (hcs : _ = List.set _ _ _) | intro (zs : List _) | intro (hzs : _))))
    (first | refine fin_ret rS ?_ | refine fin_norm rS ?_)
    exact ⟨_, rB, by assumption, rfl⟩
end Go.Proofs.Ytcclbplccnaonaa
/- What can be delivered, in plain words. No condition. -/
namespace Go.Proofs.Ytcclbplccnaonaa
open Go.RowKit
set_option linter.unusedSimpArgs false
set_option linter.unusedVariables false
structure Mk where
  r : Int
  n : Int
deriving DecidableEq
instance : Rep Mk := ⟨2, fun m => [.int .i64 m.r, .int .i64 m.n], by decide, fun _ => rfl, fun _ => rfl⟩
def Ev.mk_ (e : Ev) : Mk := ⟨e.r, e.n⟩
def Ev.rdy (c : Clk) (e : Ev) : Prop := 0 ≤ e.r ∧ e.r < 5 ∧ 1 ≤ e.n ∧ e.n - 1 = c.get e.r.toNat ∧ e.c.le c = true
/-- No mark twice. -/
def Dst (l : List Ev) : Prop := l.Pairwise fun a b => a.mk_ ≠ b.mk_
theorem Dst.inj {l : List Ev} (h : Dst l) {i j : Nat} (hi : i < l.length) (hj : j < l.length) (e : (l[i]'hi).mk_ = (l[j]'hj).mk_) : i = j := by
  rcases Nat.lt_trichotomy i j with hlt | heq | hgt
  · exact absurd e (List.pairwise_iff_getElem.1 h i j hi hj hlt)
  · exact heq
  · exact absurd e.symm (List.pairwise_iff_getElem.1 h j i hj hi hgt)
theorem Dst.erase {l : List Ev} (h : Dst l) (i : Nat) : Dst (l.eraseIdx i) := h.sublist (List.eraseIdx_sublist ..)
/-- The one that comes next. -/
def NextI (c : Clk) (l : List Ev) (i : Nat) : Prop := ∃ h : i < l.length, (l[i]'h).rdy c ∧ ∀ j (hj : j < l.length), (l[j]'hj).rdy c → (l[i]'h).r ≤ (l[j]'hj).r
theorem NextI.unique {c : Clk} {l : List Ev} (hd : Dst l) {i j : Nat} (h : NextI c l i) (k : NextI c l j) : i = j := by
  obtain ⟨hi, h1, h2⟩ := h
  obtain ⟨hj, k1, k2⟩ := k
  have e := Int.le_antisymm (h2 j hj k1) (k2 i hi h1)
  refine hd.inj hi hj ?_
  have en : (l[i]'hi).n = (l[j]'hj).n := by
    have a := h1.2.2.2.1
    have b := k1.2.2.2.1
    rw [e] at a
    omega
  simp only [Ev.mk_, e, en]
open Classical in
noncomputable def drainF : Nat → Clk → List Ev → List Ev × List Ev × Clk
  | 0, c, l => ([], l, c)
  | n + 1, c, l => if h : ∃ i, NextI c l i then
      let e := l[Classical.choose h]'(Classical.choose_spec h).1
      let r := drainF n (c.set e.r.toNat e.n) (l.eraseIdx (Classical.choose h))
      (e :: r.1, r.2)
    else ([], l, c)
noncomputable def drain (c : Clk) (l : List Ev) : List Ev × List Ev × Clk := drainF l.length c l
theorem drain_step {c : Clk} {l : List Ev} {i : Nat} (hd : Dst l) (hi : i < l.length) (h : NextI c l i) :
    drain c l = ((l[i]'hi) :: (drain (c.set (l[i]'hi).r.toNat (l[i]'hi).n) (l.eraseIdx i)).1, (drain (c.set (l[i]'hi).r.toNat (l[i]'hi).n) (l.eraseIdx i)).2) := by
  obtain ⟨m, hm⟩ : ∃ m, l.length = m + 1 := ⟨l.length - 1, by omega⟩
  have hex : ∃ i, NextI c l i := ⟨i, h⟩
  have hc : Classical.choose hex = i := NextI.unique hd (Classical.choose_spec hex) h
  have hl : (l.eraseIdx i).length = m := by rw [List.length_eraseIdx, if_pos hi]; omega
  unfold drain
  rw [hm]
  conv => lhs; unfold drainF
  rw [dif_pos hex]
  simp only [hc, hl]
theorem drain_stop {c : Clk} {l : List Ev} (h : ∀ i, ¬ NextI c l i) : drain c l = ([], l, c) := by
  unfold drain
  cases hl : l.length with
  | zero => rfl
  | succ m =>
    unfold drainF
    rw [dif_neg (fun ⟨i, hi⟩ => h i hi)]
theorem exists_next {c : Clk} {l : List Ev} (h : ∃ e ∈ l, e.rdy c) : ∃ i, NextI c l i := by
  have key : ∀ (m : Nat), m ≤ 5 → (∃ j, ∃ hj : j < l.length, (l[j]'hj).rdy c ∧ (l[j]'hj).r < m) → ∃ i, NextI c l i := by
    intro m
    induction m with
    | zero => rintro _ ⟨j, hj, hr, hlt⟩; have := hr.1; omega
    | succ m ih =>
      rintro hm ⟨j, hj, hr, hlt⟩
      by_cases hx : ∃ j, ∃ hj : j < l.length, (l[j]'hj).rdy c ∧ (l[j]'hj).r < m
      · exact ih (by omega) hx
      · refine ⟨j, hj, hr, fun k hk hkr => ?_⟩
        rcases Int.lt_or_le (l[k]'hk).r m with hlt2 | hge
        · exact absurd ⟨k, hk, hkr, hlt2⟩ hx
        · omega
  obtain ⟨e, he, hr⟩ := h
  obtain ⟨j, hj, rfl⟩ := List.getElem_of_mem he
  exact key 5 (Nat.le_refl _) ⟨j, hj, hr, by have := hr.2.1; omega⟩
theorem drain_induct {motive : Clk → List Ev → Prop} (stop : ∀ c l, (∀ i, ¬ NextI c l i) → motive c l)
    (step : ∀ c l i (hi : i < l.length), NextI c l i → motive (c.set (l[i]'hi).r.toNat (l[i]'hi).n) (l.eraseIdx i) → motive c l) : ∀ c l, motive c l := by
  intro c l
  induction hn : l.length generalizing c l with
  | zero => exact stop c l fun i ⟨hi, _⟩ => by omega
  | succ m ih =>
    by_cases h : ∃ i, NextI c l i
    · obtain ⟨i, hi⟩ := h
      obtain ⟨hl, _⟩ := id hi
      exact step c l i hl hi (ih _ _ (by rw [List.length_eraseIdx, if_pos hl]; omega))
    · exact stop c l fun i hi => h ⟨i, hi⟩
theorem drain_sub (c : Clk) (l : List Ev) : Dst l → (drain c l).2.1.Sublist l := by
  refine drain_induct (motive := fun c l => Dst l → (drain c l).2.1.Sublist l) (fun c l h _ => ?_) (fun c l i hi h ih hd => ?_) c l
  · rw [drain_stop h]
    exact List.Sublist.refl _
  · rw [drain_step hd hi h]
    exact (ih (hd.erase i)).trans (List.eraseIdx_sublist ..)
theorem drain_len (c : Clk) (l : List Ev) : Dst l → (drain c l).1.length + (drain c l).2.1.length = l.length := by
  refine drain_induct (motive := fun c l => Dst l → (drain c l).1.length + (drain c l).2.1.length = l.length) (fun c l h _ => ?_) (fun c l i hi h ih hd => ?_) c l
  · rw [drain_stop h]; simp
  · rw [drain_step hd hi h]
    have := ih (hd.erase i)
    rw [List.length_eraseIdx, if_pos hi] at this
    simp only [List.length_cons]
    omega
theorem filter_sub {s l : List Ev} (h : s.Sublist l) (hd : Dst l) : l.filter (fun e => s.any fun x => decide (x.mk_ = e.mk_)) = s := by
  induction h with
  | slnil => rfl
  | cons a hs ih =>
    rename_i s l
    rw [List.filter_cons_of_neg, ih (List.pairwise_cons.1 hd).2]
    intro hc
    obtain ⟨x, hx, he⟩ := List.any_eq_true.1 hc
    exact (List.pairwise_cons.1 hd).1 x (hs.subset hx) (of_decide_eq_true he).symm
  | cons_cons a hs ih =>
    rename_i s l
    rw [List.filter_cons_of_pos (by simp)]
    congr 1
    have h2 := ih (List.pairwise_cons.1 hd).2
    refine Eq.trans (List.filter_congr fun x hx => ?_) h2
    have hne : ¬ a.mk_ = x.mk_ := (List.pairwise_cons.1 hd).1 x hx
    simp [hne]
/-- Those that are not dropped. -/
def freshS (c : Clk) (acc : List Ev) (e : Ev) : List Ev := if (acc.any fun x => decide (x.mk_ = e.mk_)) = true ∨ c.has e.r e.n = true then acc else acc ++ [e]
def freshL (c : Clk) (l : List Ev) : List Ev := l.foldl (freshS c) []
theorem freshL_take (c : Clk) (l : List Ev) (i : Nat) (h : i < l.length) : freshL c (l.take (i + 1)) = freshS c (freshL c (l.take i)) (l[i]'h) := by
  rw [List.take_succ_eq_append_getElem h]
  unfold freshL
  rw [List.foldl_append]
  rfl
theorem freshL_dst (c : Clk) : ∀ (l acc : List Ev), Dst acc → Dst (l.foldl (freshS c) acc)
  | [], acc, h => h
  | e :: l, acc, h => by
    refine freshL_dst c l _ ?_
    unfold freshS
    split
    · exact h
    · rename_i hx
      refine List.pairwise_append.2 ⟨h, by simp, fun a ha b hb => ?_⟩
      simp only [List.mem_singleton] at hb
      subst hb
      intro e2
      exact hx (.inl (List.any_eq_true.2 ⟨a, ha, decide_eq_true e2⟩))
theorem freshL_len (c : Clk) (l : List Ev) : (freshL c l).length ≤ l.length := by
  have key : ∀ (l acc : List Ev), (l.foldl (freshS c) acc).length ≤ acc.length + l.length := by
    intro l
    induction l with
    | nil => intro acc; simp
    | cons e l ih =>
      intro acc
      have := ih (freshS c acc e)
      have h2 : (freshS c acc e).length ≤ acc.length + 1 := by unfold freshS; split <;> simp
      simp only [List.foldl_cons, List.length_cons]
      omega
  simpa [freshL] using key l []
theorem freshL_mem (c : Clk) (l : List Ev) : ∀ e ∈ freshL c l, e ∈ l := by
  have key : ∀ (l acc : List Ev), ∀ e ∈ l.foldl (freshS c) acc, e ∈ acc ∨ e ∈ l := by
    intro l
    induction l with
    | nil => intro acc e he; exact .inl he
    | cons a l ih =>
      intro acc e he
      rcases ih _ e he with h | h
      · unfold freshS at h
        split at h
        · exact .inl h
        · rcases List.mem_append.1 h with h | h
          · exact .inl h
          · right; simp at h; simp [h]
      · exact .inr (List.mem_cons_of_mem _ h)
  intro e he
  rcases key l [] e he with h | h
  · simp at h
  · exact h
/-- Which marks have come. -/
theorem freshL_any (c : Clk) (l : List Ev) (x : Ev) (hx : c.has x.r x.n = false) : ((freshL c l).any fun y => decide (y.mk_ = x.mk_)) = (l.any fun y => decide (y.mk_ = x.mk_)) := by
  have key : ∀ (l acc : List Ev), ((l.foldl (freshS c) acc).any fun y => decide (y.mk_ = x.mk_)) = ((acc.any fun y => decide (y.mk_ = x.mk_)) || (l.any fun y => decide (y.mk_ = x.mk_))) := by
    intro l
    induction l with
    | nil => intro acc; simp
    | cons a l ih =>
      intro acc
      rw [List.foldl_cons, ih]
      unfold freshS
      by_cases ha : a.mk_ = x.mk_
      · have hn : c.has a.r a.n = false := by
          have h1 : a.r = x.r := congrArg Mk.r ha
          have h2 : a.n = x.n := congrArg Mk.n ha
          rw [h1, h2]; exact hx
        simp only [ha, hn, List.any_cons, decide_true, Bool.true_or, Bool.or_true, Bool.false_eq_true, or_false]
        split
        · rename_i h; simp [h]
        · simp [ha]
      · simp only [List.any_cons, ha, decide_false, Bool.false_or]
        split
        · rfl
        · simp [ha]
  simpa [freshL] using key l []
theorem freshL_has (c : Clk) (l : List Ev) : ∀ e ∈ freshL c l, c.has e.r e.n = false := by
  have key : ∀ (l acc : List Ev), (∀ e ∈ acc, c.has e.r e.n = false) → ∀ e ∈ l.foldl (freshS c) acc, c.has e.r e.n = false := by
    intro l
    induction l with
    | nil => intro acc h; exact h
    | cons a l ih =>
      intro acc h
      refine ih _ ?_
      unfold freshS
      split
      · exact h
      · rename_i hx
        intro e he
        rcases List.mem_append.1 he with he | he
        · exact h e he
        · simp at he
          subst he
          cases hh : c.has e.r e.n
          · rfl
          · exact absurd (.inr hh) hx
  exact key l [] (by simp)
/-- A list as a map by marks. -/
def mapL (l : List Ev) : List (Mk × Ev) := l.map fun e => (e.mk_, e)
theorem mpos_spec (k : Mk) : ∀ (l : List Ev) (s : Nat), (mpos k (mapL l) s = none ∧ ∀ e ∈ l, e.mk_ ≠ k) ∨ ∃ i, ∃ h : i < l.length, (l[i]'h).mk_ = k ∧ mpos k (mapL l) s = some (s + i, l[i]'h)
  | [], s => .inl ⟨rfl, by simp⟩
  | e :: l, s => by
    by_cases hk : k = e.mk_
    · exact .inr ⟨0, by simp, hk.symm, if_pos hk⟩
    · rcases mpos_spec k l (s + 1) with ⟨h1, h2⟩ | ⟨i, hi, h1, h2⟩
      · refine .inl ⟨(if_neg hk).trans h1, fun x hx => ?_⟩
        rcases List.mem_cons.1 hx with rfl | hx
        · exact fun h => hk h.symm
        · exact h2 x hx
      · refine .inr ⟨i + 1, by simp; omega, by simpa using h1, (if_neg hk).trans ?_⟩
        show mpos k (mapL l) (s + 1) = _
        rw [h2]
        simp; omega
theorem mpos_at {l : List Ev} (hd : Dst l) {i : Nat} (hi : i < l.length) : mpos (l[i]'hi).mk_ (mapL l) 0 = some (i, l[i]'hi) := by
  rcases mpos_spec (l[i]'hi).mk_ l 0 with ⟨_, h2⟩ | ⟨j, hj, h1, h2⟩
  · exact absurd rfl (h2 _ (List.getElem_mem hi))
  · have := hd.inj hj hi h1
    subst this
    rw [h2, Nat.zero_add]
theorem mapL_snoc (l : List Ev) (e : Ev) : mapL (l ++ [e]) = mapL l ++ [(e.mk_, e)] := by simp [mapL]
theorem mapL_erase (l : List Ev) (i : Nat) : mapL (l.eraseIdx i) = (mapL l).eraseIdx i := eraseIdx_map _ l i
theorem any_iff_mpos (k : Ev) (l : List Ev) : (l.any fun x => decide (x.mk_ = k.mk_)) = (mpos k.mk_ (mapL l) 0).isSome := by
  rcases mpos_spec k.mk_ l 0 with ⟨h1, h2⟩ | ⟨i, hi, h1, h2⟩
  · rw [h1]
    simp only [Option.isSome_none]
    rw [List.any_eq_false]
    intro x hx
    simpa using h2 x hx
  · rw [h2]
    simp only [Option.isSome_some]
    exact List.any_eq_true.2 ⟨_, List.getElem_mem hi, decide_eq_true h1⟩
end Go.Proofs.Ytcclbplccnaonaa
/- Clocks, walked over parts of memory: Has, LessEq, and the reference's. No condition. -/
namespace Go.Proofs.Ytcclbplccnaonaa
open Go.RowKit
set_option linter.unusedSimpArgs false
set_option linter.unusedVariables false
theorem Clk.getD_eq (k : Clk) (i : Nat) : [k.a, k.b, k.c, k.d, k.e].getD i 0 = k.get i := by
  match i with
  | 0 => rfl
  | 1 => rfl
  | 2 => rfl
  | 3 => rfl
  | 4 => rfl
  | i + 5 => simp [Clk.get]
theorem Clk.le_iff (x y : Clk) : x.le y = true ↔ ∀ j, j < 5 → x.get j ≤ y.get j := by
  simp only [Clk.le, Bool.and_eq_true, decide_eq_true_eq]
  constructor
  · rintro ⟨⟨⟨⟨h0, h1⟩, h2⟩, h3⟩, h4⟩ j hj
    match j, hj with
    | 0, _ => exact h0
    | 1, _ => exact h1
    | 2, _ => exact h2
    | 3, _ => exact h3
    | 4, _ => exact h4
  · intro h
    exact ⟨⟨⟨⟨h 0 (by omega), h 1 (by omega)⟩, h 2 (by omega)⟩, h 3 (by omega)⟩, h 4 (by omega)⟩
theorem Clk.has_iff (x : Clk) (r n : Int) : x.has r n = true ↔ 0 ≤ r ∧ r < 5 ∧ 1 ≤ n ∧ n ≤ x.get r.toNat := by
  simp [Clk.has, and_assoc]
theorem Clk.has_f {x : Clk} {r n : Int} (h : ¬ (0 ≤ r ∧ r < 5 ∧ 1 ≤ n ∧ n ≤ x.get r.toNat)) : x.has r n = false := by
  cases hh : x.has r n
  · rfl
  · exact absurd ((Clk.has_iff x r n).1 hh) h
def Clk.I (c : Clk) : Prop := ∀ i, i < 5 → I64 (c.get i)
theorem Clk.get_set (c : Clk) (i j : Nat) (v : Int) (hi : i < 5) : (c.set i v).get j = if j = i then v else c.get j := by
  match i, hi with
  | 0, _ => match j with | 0 => rfl | 1 => rfl | 2 => rfl | 3 => rfl | 4 => rfl | j + 5 => simp [Clk.set, Clk.get]
  | 1, _ => match j with | 0 => rfl | 1 => rfl | 2 => rfl | 3 => rfl | 4 => rfl | j + 5 => simp [Clk.set, Clk.get]
  | 2, _ => match j with | 0 => rfl | 1 => rfl | 2 => rfl | 3 => rfl | 4 => rfl | j + 5 => simp [Clk.set, Clk.get]
  | 3, _ => match j with | 0 => rfl | 1 => rfl | 2 => rfl | 3 => rfl | 4 => rfl | j + 5 => simp [Clk.set, Clk.get]
  | 4, _ => match j with | 0 => rfl | 1 => rfl | 2 => rfl | 3 => rfl | 4 => rfl | j + 5 => simp [Clk.set, Clk.get]
theorem Clk.I.set {c : Clk} (h : c.I) {i : Nat} (hi : i < 5) {v : Int} (hv : I64 v) : (c.set i v).I := fun j hj => by
  rw [Clk.get_set _ _ _ _ hi]
  split
  · exact hv
  · exact h j hj
theorem Clk.cells_set (c : Clk) (i : Nat) (hi : i < 5) (v : Int) : (Rep.cells c).set i (.int .i64 v) = Rep.cells (c.set i v) := by
  match i, hi with
  | 0, _ => rfl
  | 1, _ => rfl
  | 2, _ => rfl
  | 3, _ => rfl
  | 4, _ => rfl
theorem Clk.ext_get {a b : Clk} (h : ∀ j, j < 5 → a.get j = b.get j) : a = b := by
  obtain ⟨a0, a1, a2, a3, a4⟩ := a
  obtain ⟨b0, b1, b2, b3, b4⟩ := b
  have h0 : a0 = b0 := h 0 (by omega)
  have h1 : a1 = b1 := h 1 (by omega)
  have h2 : a2 = b2 := h 2 (by omega)
  have h3 : a3 = b3 := h 3 (by omega)
  have h4 : a4 = b4 := h 4 (by omega)
  rw [h0, h1, h2, h3, h4]
theorem Clk.join_get (a b : Clk) (j : Nat) (h : j < 5) : (a.join b).get j = max (a.get j) (b.get j) := by
  match j, h with
  | 0, _ => rfl
  | 1, _ => rfl
  | 2, _ => rfl
  | 3, _ => rfl
  | 4, _ => rfl
set_option maxRecDepth 20000 attribute [local irreducible] Ex ExL Fn thn inb rnd fin meet Tab Mix mxEnd Val Sats RdT Rd RowT Row Blk Sub Fac ResV RVal Evs subs subs3 Hid Capd
theorem has_F (x : Clk) (r n : Int) (M : List Assn) : Fn Try.prog 30 #[x.val, .int .i64 r, .int .i64 n] M fun v L' => v = .bool (x.has r n) ∧ L' = M := by
  refine Fn.of_ex Try.func30 rfl Try.ntmps30 rfl ?_
  by_cases h0 : 0 ≤ r
  · by_cases h1 : r < 5
    · by_cases h2 : 1 ≤ n
      · have e := Clk.getD_eq x r.toNat
        by_cases h3 : n ≤ x.get r.toNat
        · rw [(Clk.has_iff x r n).2 ⟨h0, h1, h2, h3⟩]
          (refine rn ?_; (repeat (first | intro (g : Nat) | intro (v : Value) | intro (o : Value.oneCell' _ = true) | intro (cs : List Value) | intro (hcs : _ = List.set _ _ _) | intro (zs : List _) | intro (hzs : _))))
          (first | refine fin_ret rS ?_ | refine fin_norm rS ?_)
          exact ⟨_, rB, rfl, rfl⟩
        · rw [Clk.has_f (fun h => h3 h.2.2.2)]
          (refine rn ?_; (repeat (first | intro (g : Nat) | intro (v : Value) | intro (o : Value.oneCell' _ = true) | intro (cs : List Value) | intro (hcs : _ = List.set _ _ _) | intro (zs : List _) | intro (hzs : _))))
          (first | refine fin_ret rS ?_ | refine fin_norm rS ?_)
          exact ⟨_, rB, rfl, rfl⟩
      · rw [Clk.has_f (fun h => h2 h.2.2.1)]
        (refine rn ?_; (repeat (first | intro (g : Nat) | intro (v : Value) | intro (o : Value.oneCell' _ = true) | intro (cs : List Value) | intro (hcs : _ = List.set _ _ _) | intro (zs : List _) | intro (hzs : _))))
        (first | refine fin_ret rS ?_ | refine fin_norm rS ?_)
        exact ⟨_, rB, rfl, rfl⟩
    · rw [Clk.has_f (fun h => h1 h.2.1)]
      (refine rn ?_; (repeat (first | intro (g : Nat) | intro (v : Value) | intro (o : Value.oneCell' _ = true) | intro (cs : List Value) | intro (hcs : _ = List.set _ _ _) | intro (zs : List _) | intro (hzs : _))))
      (first | refine fin_ret rS ?_ | refine fin_norm rS ?_)
      exact ⟨_, rB, rfl, rfl⟩
  · rw [Clk.has_f (fun h => h0 h.1)]
    (refine rn ?_; (repeat (first | intro (g : Nat) | intro (v : Value) | intro (o : Value.oneCell' _ = true) | intro (cs : List Value) | intro (hcs : _ = List.set _ _ _) | intro (zs : List _) | intro (hzs : _))))
    (first | refine fin_ret rS ?_ | refine fin_norm rS ?_)
    exact ⟨_, rB, rfl, rfl⟩
theorem rhas_F (x : Clk) (r n : Int) (M : List Assn) : Fn Try.prog 41 #[x.val, .int .i64 r, .int .i64 n] M fun v L' => v = .bool (x.has r n) ∧ L' = M := by
  refine Fn.of_ex Try.func41 rfl Try.ntmps41 rfl ?_
  by_cases h0 : 0 ≤ r
  · by_cases h1 : r < 5
    · by_cases h2 : 1 ≤ n
      · have e := Clk.getD_eq x r.toNat
        by_cases h3 : n ≤ x.get r.toNat
        · rw [(Clk.has_iff x r n).2 ⟨h0, h1, h2, h3⟩]
          (refine rn ?_; (repeat (first | intro (g : Nat) | intro (v : Value) | intro (o : Value.oneCell' _ = true) | intro (cs : List Value) | intro (hcs : _ = List.set _ _ _) | intro (zs : List _) | intro (hzs : _))))
          (first | refine fin_ret rS ?_ | refine fin_norm rS ?_)
          exact ⟨_, rB, rfl, rfl⟩
        · rw [Clk.has_f (fun h => h3 h.2.2.2)]
          (refine rn ?_; (repeat (first | intro (g : Nat) | intro (v : Value) | intro (o : Value.oneCell' _ = true) | intro (cs : List Value) | intro (hcs : _ = List.set _ _ _) | intro (zs : List _) | intro (hzs : _))))
          (first | refine fin_ret rS ?_ | refine fin_norm rS ?_)
          exact ⟨_, rB, rfl, rfl⟩
      · rw [Clk.has_f (fun h => h2 h.2.2.1)]
        (refine rn ?_; (repeat (first | intro (g : Nat) | intro (v : Value) | intro (o : Value.oneCell' _ = true) | intro (cs : List Value) | intro (hcs : _ = List.set _ _ _) | intro (zs : List _) | intro (hzs : _))))
        (first | refine fin_ret rS ?_ | refine fin_norm rS ?_)
        exact ⟨_, rB, rfl, rfl⟩
    · rw [Clk.has_f (fun h => h1 h.2.1)]
      (refine rn ?_; (repeat (first | intro (g : Nat) | intro (v : Value) | intro (o : Value.oneCell' _ = true) | intro (cs : List Value) | intro (hcs : _ = List.set _ _ _) | intro (zs : List _) | intro (hzs : _))))
      (first | refine fin_ret rS ?_ | refine fin_norm rS ?_)
      exact ⟨_, rB, rfl, rfl⟩
  · rw [Clk.has_f (fun h => h0 h.1)]
    (refine rn ?_; (repeat (first | intro (g : Nat) | intro (v : Value) | intro (o : Value.oneCell' _ = true) | intro (cs : List Value) | intro (hcs : _ = List.set _ _ _) | intro (zs : List _) | intro (hzs : _))))
    (first | refine fin_ret rS ?_ | refine fin_norm rS ?_)
    exact ⟨_, rB, rfl, rfl⟩
theorem le_F (x y : Clk) (M : List Assn) : Fn Try.prog 34 #[x.val, y.val] M fun v L' => v = .bool (x.le y) ∧ L' = M := by
  refine Fn.of_ex Try.func34 rfl Try.ntmps34 rfl ?_
  (refine rn ?_; (repeat (first | intro (g : Nat) | intro (v : Value) | intro (o : Value.oneCell' _ = true) | intro (cs : List Value) | intro (hcs : _ = List.set _ _ _) | intro (zs : List _) | intro (hzs : _))))
  refine Ex.loopS [6] (fun m vs => ∃ (i : Nat), i ≤ 5 ∧ m = 5 - i ∧ vs = [.int .i64 i] ∧ ∀ j, j < i → x.get j ≤ y.get j) 5 ⟨0, by omega, by omega, rfl, fun j hj => by omega⟩ ?_
  rintro m vs g1 ⟨i, hi, rfl, rfl, hall⟩
  refine Ex.keep [2, 3, 6] rG (fun gk => ?_)
  by_cases hlt : i < 5
  · have e1 := Clk.getD_eq x (i : Int).toNat
    have e2 := Clk.getD_eq y (i : Int).toNat
    rw [show x.get (i : Int).toNat = x.get i from rfl] at e1
    rw [show y.get (i : Int).toNat = y.get i from rfl] at e2
    by_cases hc : x.get i ≤ y.get i
    · have hall2 : ∀ j, j < i + 1 → x.get j ≤ y.get j := fun j hj => by
        by_cases hji : j = i
        · subst hji; exact hc
        · exact hall j (by omega)
      clear hall
      (refine rn ?_; (repeat (first | intro (g : Nat) | intro (v : Value) | intro (o : Value.oneCell' _ = true) | intro (cs : List Value) | intro (hcs : _ = List.set _ _ _) | intro (zs : List _) | intro (hzs : _))))
      (refine Ex.mixA 7 _ rfl (by kernel_rfl) (Fac.refl _) ?_; (refine mn ?_; (repeat (first | intro (g : Nat) | intro (v : Value) | intro (o : Value.oneCell' _ = true) | intro (cs : List Value) | intro (hcs : _ = List.set _ _ _) | intro (zs : List _) | intro (hzs : _)))))
      (refine rn ?_; (repeat (first | intro (g : Nat) | intro (v : Value) | intro (o : Value.oneCell' _ = true) | intro (cs : List Value) | intro (hcs : _ = List.set _ _ _) | intro (zs : List _) | intro (hzs : _))))
      exact rnd_n ⟨5 - (i + 1), _, by omega, Sub.refl _, ⟨i + 1, by omega, by omega, lcons (vint (by omega)) rfl, hall2⟩, rfl⟩
    · have hf : x.le y = false := by
        cases hh : x.le y
        · rfl
        · exact absurd ((Clk.le_iff x y).1 hh i hlt) hc
      clear hall
      rw [hf]
      (refine rn ?_; (repeat (first | intro (g : Nat) | intro (v : Value) | intro (o : Value.oneCell' _ = true) | intro (cs : List Value) | intro (hcs : _ = List.set _ _ _) | intro (zs : List _) | intro (hzs : _))))
      (refine Ex.mixA 7 _ rfl (by kernel_rfl) (Fac.refl _) ?_; (refine mn ?_; (repeat (first | intro (g : Nat) | intro (v : Value) | intro (o : Value.oneCell' _ = true) | intro (cs : List Value) | intro (hcs : _ = List.set _ _ _) | intro (zs : List _) | intro (hzs : _)))))
      (refine rn ?_; (repeat (first | intro (g : Nat) | intro (v : Value) | intro (o : Value.oneCell' _ = true) | intro (cs : List Value) | intro (hcs : _ = List.set _ _ _) | intro (zs : List _) | intro (hzs : _))))
      (first | refine fin_ret rS ?_ | refine fin_norm rS ?_)
      exact ⟨_, rB, rfl, rfl⟩
  · rw [(Clk.le_iff x y).2 (fun j hj => hall j (by omega))]
    (refine rn ?_; (repeat (first | intro (g : Nat) | intro (v : Value) | intro (o : Value.oneCell' _ = true) | intro (cs : List Value) | intro (hcs : _ = List.set _ _ _) | intro (zs : List _) | intro (hzs : _))))
    (first | refine fin_ret rS ?_ | refine fin_norm rS ?_)
    exact ⟨_, rB, rfl, rfl⟩
theorem rle_F (x y : Clk) (M : List Assn) : Fn Try.prog 43 #[x.val, y.val] M fun v L' => v = .bool (x.le y) ∧ L' = M := by
  refine Fn.of_ex Try.func43 rfl Try.ntmps43 rfl ?_
  (refine rn ?_; (repeat (first | intro (g : Nat) | intro (v : Value) | intro (o : Value.oneCell' _ = true) | intro (cs : List Value) | intro (hcs : _ = List.set _ _ _) | intro (zs : List _) | intro (hzs : _))))
  refine Ex.loopS [5] (fun m vs => ∃ (i : Nat), i ≤ 5 ∧ m = 5 - i ∧ vs = [.int .i64 i] ∧ ∀ j, j < i → x.get j ≤ y.get j) 5 ⟨0, by omega, by omega, rfl, fun j hj => by omega⟩ ?_
  rintro m vs g1 ⟨i, hi, rfl, rfl, hall⟩
  refine Ex.keep [2, 3, 5] rG (fun gk => ?_)
  by_cases hlt : i < 5
  · have e1 := Clk.getD_eq x (i : Int).toNat
    have e2 := Clk.getD_eq y (i : Int).toNat
    rw [show x.get (i : Int).toNat = x.get i from rfl] at e1
    rw [show y.get (i : Int).toNat = y.get i from rfl] at e2
    by_cases hc : x.get i ≤ y.get i
    · have hall2 : ∀ j, j < i + 1 → x.get j ≤ y.get j := fun j hj => by
        by_cases hji : j = i
        · subst hji; exact hc
        · exact hall j (by omega)
      clear hall
      (refine rn ?_; (repeat (first | intro (g : Nat) | intro (v : Value) | intro (o : Value.oneCell' _ = true) | intro (cs : List Value) | intro (hcs : _ = List.set _ _ _) | intro (zs : List _) | intro (hzs : _))))
      (refine Ex.mixA 7 _ rfl (by kernel_rfl) (Fac.refl _) ?_; (refine mn ?_; (repeat (first | intro (g : Nat) | intro (v : Value) | intro (o : Value.oneCell' _ = true) | intro (cs : List Value) | intro (hcs : _ = List.set _ _ _) | intro (zs : List _) | intro (hzs : _)))))
      (refine rn ?_; (repeat (first | intro (g : Nat) | intro (v : Value) | intro (o : Value.oneCell' _ = true) | intro (cs : List Value) | intro (hcs : _ = List.set _ _ _) | intro (zs : List _) | intro (hzs : _))))
      exact rnd_n ⟨5 - (i + 1), _, by omega, Sub.refl _, ⟨i + 1, by omega, by omega, lcons (vint (by omega)) rfl, hall2⟩, rfl⟩
    · have hf : x.le y = false := by
        cases hh : x.le y
        · rfl
        · exact absurd ((Clk.le_iff x y).1 hh i hlt) hc
      clear hall
      rw [hf]
      (refine rn ?_; (repeat (first | intro (g : Nat) | intro (v : Value) | intro (o : Value.oneCell' _ = true) | intro (cs : List Value) | intro (hcs : _ = List.set _ _ _) | intro (zs : List _) | intro (hzs : _))))
      (refine Ex.mixA 7 _ rfl (by kernel_rfl) (Fac.refl _) ?_; (refine mn ?_; (repeat (first | intro (g : Nat) | intro (v : Value) | intro (o : Value.oneCell' _ = true) | intro (cs : List Value) | intro (hcs : _ = List.set _ _ _) | intro (zs : List _) | intro (hzs : _)))))
      (refine rn ?_; (repeat (first | intro (g : Nat) | intro (v : Value) | intro (o : Value.oneCell' _ = true) | intro (cs : List Value) | intro (hcs : _ = List.set _ _ _) | intro (zs : List _) | intro (hzs : _))))
      (first | refine fin_ret rS ?_ | refine fin_norm rS ?_)
      exact ⟨_, rB, rfl, rfl⟩
  · rw [(Clk.le_iff x y).2 (fun j hj => hall j (by omega))]
    (refine rn ?_; (repeat (first | intro (g : Nat) | intro (v : Value) | intro (o : Value.oneCell' _ = true) | intro (cs : List Value) | intro (hcs : _ = List.set _ _ _) | intro (zs : List _) | intro (hzs : _))))
    (first | refine fin_ret rS ?_ | refine fin_norm rS ?_)
    exact ⟨_, rB, rfl, rfl⟩
end Go.Proofs.Ytcclbplccnaonaa
/- What is left of a drained list, in plain words. No condition. -/
namespace Go.Proofs.Ytcclbplccnaonaa
open Go.RowKit
set_option linter.unusedSimpArgs false
set_option linter.unusedVariables false
theorem le_refl_clk (c : Clk) : c.le c = true := (Clk.le_iff c c).2 fun j _ => Int.le_refl _
theorem le_trans_clk {a b c : Clk} (h : a.le b = true) (k : b.le c = true) : a.le c = true :=
  (Clk.le_iff a c).2 fun j hj => Int.le_trans ((Clk.le_iff a b).1 h j hj) ((Clk.le_iff b c).1 k j hj)
theorem has_mono {a b : Clk} (h : a.le b = true) {r n : Int} (k : a.has r n = true) : b.has r n = true := by
  obtain ⟨h0, h1, h2, h3⟩ := (Clk.has_iff a r n).1 k
  exact (Clk.has_iff b r n).2 ⟨h0, h1, h2, Int.le_trans h3 ((Clk.le_iff a b).1 h _ (by omega))⟩
theorem rdy_le {c : Clk} {e : Ev} (h : e.rdy c) : c.le (c.set e.r.toNat e.n) = true := by
  obtain ⟨h0, h1, h2, h3, _⟩ := h
  refine (Clk.le_iff _ _).2 fun j hj => ?_
  rw [Clk.get_set _ _ _ _ (by omega)]
  split
  · rename_i hje; subst hje; omega
  · exact Int.le_refl _
theorem rdy_has {c : Clk} {e : Ev} (h : e.rdy c) : (c.set e.r.toNat e.n).has e.r e.n = true := by
  obtain ⟨h0, h1, h2, h3, _⟩ := h
  refine (Clk.has_iff _ _ _).2 ⟨h0, h1, h2, ?_⟩
  rw [Clk.get_set _ _ _ _ (by omega), if_pos rfl]
  exact Int.le_refl _
/-- Who was not seen, and has another mark, is not seen then. -/
theorem rdy_keep {c : Clk} {e x : Ev} (h : e.rdy c) (hx : c.has x.r x.n = false) (hne : x.mk_ ≠ e.mk_) : (c.set e.r.toNat e.n).has x.r x.n = false := by
  obtain ⟨h0, h1, h2, h3, _⟩ := h
  refine Clk.has_f fun ⟨k0, k1, k2, k3⟩ => ?_
  rw [Clk.get_set _ _ _ _ (by omega)] at k3
  split at k3
  · rename_i hre
    have hr : x.r = e.r := by omega
    have hn : x.n ≠ e.n := fun hn => hne (by simp only [Ev.mk_, hr, hn])
    have : c.has x.r x.n = true := (Clk.has_iff _ _ _).2 ⟨k0, k1, k2, by rw [hr]; omega⟩
    rw [this] at hx
    cases hx
  · have : c.has x.r x.n = true := (Clk.has_iff _ _ _).2 ⟨k0, k1, k2, k3⟩
    rw [this] at hx
    cases hx
theorem mem_erase_ne {l : List Ev} (hd : Dst l) {i : Nat} (hi : i < l.length) {x : Ev} (hx : x ∈ l.eraseIdx i) : x ∈ l ∧ x.mk_ ≠ (l[i]'hi).mk_ := by
  obtain ⟨j, hji, hj⟩ := List.mem_eraseIdx_iff_getElem?.1 hx
  obtain ⟨hjl, rfl⟩ := List.getElem?_eq_some_iff.1 hj
  exact ⟨List.getElem_mem hjl, fun h => hji (hd.inj hjl hi h)⟩
theorem drain_le (c : Clk) (l : List Ev) : Dst l → c.le (drain c l).2.2 = true := by
  refine drain_induct (motive := fun c l => Dst l → c.le (drain c l).2.2 = true) (fun c l h _ => ?_) (fun c l i hi h ih hd => ?_) c l
  · rw [drain_stop h]; exact le_refl_clk c
  · rw [drain_step hd hi h]
    exact le_trans_clk (rdy_le h.2.1) (ih (hd.erase i))
theorem drain_done (c : Clk) (l : List Ev) : Dst l → ∀ e ∈ (drain c l).1, (drain c l).2.2.has e.r e.n = true := by
  refine drain_induct (motive := fun c l => Dst l → ∀ e ∈ (drain c l).1, (drain c l).2.2.has e.r e.n = true) (fun c l h _ => ?_) (fun c l i hi h ih hd => ?_) c l
  · rw [drain_stop h]; intro e he; simp at he
  · rw [drain_step hd hi h]
    intro e he
    rcases List.mem_cons.1 he with rfl | he
    · exact has_mono (drain_le _ _ (hd.erase i)) (rdy_has h.2.1)
    · exact ih (hd.erase i) e he
theorem drain_left (c : Clk) (l : List Ev) : Dst l → (∀ e ∈ l, c.has e.r e.n = false) → ∀ e ∈ (drain c l).2.1, (drain c l).2.2.has e.r e.n = false := by
  refine drain_induct (motive := fun c l => Dst l → (∀ e ∈ l, c.has e.r e.n = false) → ∀ e ∈ (drain c l).2.1, (drain c l).2.2.has e.r e.n = false) (fun c l h _ hn => ?_) (fun c l i hi h ih hd hn => ?_) c l
  · rw [drain_stop h]; exact hn
  · rw [drain_step hd hi h]
    refine ih (hd.erase i) fun e he => ?_
    obtain ⟨h1, h2⟩ := mem_erase_ne hd hi he
    exact rdy_keep h.2.1 (hn e h1) h2
theorem drain_end (c : Clk) (l : List Ev) : Dst l → ∀ i, ¬ NextI (drain c l).2.2 (drain c l).2.1 i := by
  refine drain_induct (motive := fun c l => Dst l → ∀ i, ¬ NextI (drain c l).2.2 (drain c l).2.1 i) (fun c l h _ => ?_) (fun c l i hi h ih hd => ?_) c l
  · rw [drain_stop h]; exact h
  · rw [drain_step hd hi h]; exact ih (hd.erase i)
theorem drain_I (c : Clk) (l : List Ev) : Dst l → c.I → (∀ e ∈ l, I64 e.n) → (drain c l).2.2.I := by
  refine drain_induct (motive := fun c l => Dst l → c.I → (∀ e ∈ l, I64 e.n) → (drain c l).2.2.I) (fun c l h _ hc _ => ?_) (fun c l i hi h ih hd hc hl => ?_) c l
  · rw [drain_stop h]; exact hc
  · rw [drain_step hd hi h]
    have hr := h.2.1
    exact ih (hd.erase i) (hc.set (by have := hr.1; have := hr.2.1; omega) (hl _ (List.getElem_mem hi))) fun e he => hl e ((List.eraseIdx_sublist ..).subset he)
/-- How often a mark is there. -/
def cnt (k : Mk) (l : List Ev) : Nat := l.countP fun e => decide (e.mk_ = k)
theorem cnt_take (k : Mk) (l : List Ev) (i : Nat) (h : i < l.length) : cnt k (l.take (i + 1)) = cnt k (l.take i) + if (l[i]'h).mk_ = k then 1 else 0 := by
  unfold cnt
  rw [List.take_succ_eq_append_getElem h, List.countP_append]
  congr 1
  simp [List.countP_cons]
theorem cnt_erase (k : Mk) (l : List Ev) (i : Nat) (h : i < l.length) : cnt k l = (if (l[i]'h).mk_ = k then 1 else 0) + cnt k (l.eraseIdx i) := by
  unfold cnt
  have e : l = l.take i ++ l[i]'h :: l.drop (i + 1) := by rw [List.getElem_cons_drop, List.take_append_drop]
  rw [List.eraseIdx_eq_take_drop_succ]
  conv => lhs; rw [e]
  rw [List.countP_append, List.countP_append, List.countP_cons]
  simp only [decide_eq_true_eq]
  omega
theorem drain_cnt (k : Mk) (c : Clk) (l : List Ev) : Dst l → cnt k (drain c l).1 + cnt k (drain c l).2.1 = cnt k l := by
  refine drain_induct (motive := fun c l => Dst l → cnt k (drain c l).1 + cnt k (drain c l).2.1 = cnt k l) (fun c l h _ => ?_) (fun c l i hi h ih hd => ?_) c l
  · rw [drain_stop h]; simp [cnt]
  · rw [drain_step hd hi h, cnt_erase k l i hi]
    have := ih (hd.erase i)
    have e : ∀ (a : Ev) (t : List Ev), cnt k (a :: t) = (if a.mk_ = k then 1 else 0) + cnt k t := fun a t => by
      unfold cnt
      rw [List.countP_cons]
      simp only [decide_eq_true_eq]
      omega
    show cnt k ((l[i]'hi) :: (drain (c.set (l[i]'hi).r.toNat (l[i]'hi).n) (l.eraseIdx i)).1) + cnt k (drain (c.set (l[i]'hi).r.toNat (l[i]'hi).n) (l.eraseIdx i)).2.1 = _
    rw [e]
    omega
theorem cnt_le_one {l : List Ev} (hd : Dst l) (k : Mk) : cnt k l ≤ 1 := by
  induction l with
  | nil => simp [cnt]
  | cons a l ih =>
    have h2 := List.pairwise_cons.1 hd
    unfold cnt at ih ⊢
    rw [List.countP_cons]
    split
    · rename_i hk
      have : l.countP (fun e => decide (e.mk_ = k)) = 0 := List.countP_eq_zero.2 fun x hx => by
        have := h2.1 x hx
        rw [of_decide_eq_true hk] at this
        simpa using fun h : x.mk_ = k => this h.symm
      omega
    · have := ih h2.2; omega
/-- Each mark of a list is there once behind, if it was not seen; else not at all. -/
theorem closed_cnt (c : Clk) (w : List Ev) (x : Ev) (hx : x ∈ w) : cnt x.mk_ (drain c (freshL c w)).1 + cnt x.mk_ (drain c (freshL c w)).2.1 = if c.has x.r x.n = true then 0 else 1 := by
  have hd : Dst (freshL c w) := freshL_dst c w [] List.Pairwise.nil
  rw [drain_cnt _ _ _ hd]
  cases hh : c.has x.r x.n
  · rw [if_neg (by simp)]
    have h1 := cnt_le_one hd x.mk_
    have h2 : ((freshL c w).any fun y => decide (y.mk_ = x.mk_)) = true := by
      rw [freshL_any c w x hh]
      exact List.any_eq_true.2 ⟨x, hx, decide_eq_true rfl⟩
    have h3 : 0 < cnt x.mk_ (freshL c w) := by
      unfold cnt
      rw [List.countP_pos_iff]
      obtain ⟨y, hy, hyx⟩ := List.any_eq_true.1 h2
      exact ⟨y, hy, hyx⟩
    omega
  · rw [if_pos rfl]
    unfold cnt
    refine List.countP_eq_zero.2 fun y hy => ?_
    have h1 := freshL_has c w y hy
    intro h
    have h := of_decide_eq_true h
    have e1 : y.r = x.r := congrArg Mk.r h
    have e2 : y.n = x.n := congrArg Mk.n h
    rw [e1, e2, hh] at h1
    cases h1
theorem freshL_id {c : Clk} {l : List Ev} (hd : Dst l) (h : ∀ e ∈ l, c.has e.r e.n = false) : freshL c l = l := by
  have key : ∀ (l acc : List Ev), Dst (acc ++ l) → (∀ e ∈ l, c.has e.r e.n = false) → l.foldl (freshS c) acc = acc ++ l := by
    intro l
    induction l with
    | nil => intro acc _ _; simp
    | cons a l ih =>
      intro acc hd h
      have hs : freshS c acc a = acc ++ [a] := by
        unfold freshS
        rw [if_neg]
        rintro (hx | hx)
        · obtain ⟨y, hy, hya⟩ := List.any_eq_true.1 hx
          exact (List.pairwise_append.1 hd).2.2 y hy a (by simp) (of_decide_eq_true hya)
        · rw [h a (by simp)] at hx; cases hx
      rw [List.foldl_cons, hs, ih (acc ++ [a]) (by simpa using hd) (fun e he => h e (List.mem_cons_of_mem _ he))]
      simp
  exact key l [] hd h
theorem drain_again (c : Clk) (w : List Ev) : drain (drain c (freshL c w)).2.2 (freshL (drain c (freshL c w)).2.2 (drain c (freshL c w)).2.1) = ([], (drain c (freshL c w)).2.1, (drain c (freshL c w)).2.2) := by
  have hd : Dst (freshL c w) := freshL_dst c w [] List.Pairwise.nil
  rw [freshL_id (hd.sublist (drain_sub _ _ hd)) (drain_left _ _ hd (freshL_has c w))]
  exact drain_stop (drain_end _ _ hd)
end Go.Proofs.Ytcclbplccnaonaa
/- A right past, made, in plain words. No condition. -/
namespace Go.Proofs.Ytcclbplccnaonaa
open Go.RowKit
set_option linter.unusedSimpArgs false
set_option linter.unusedVariables false
/-- A choice. -/
structure Ch where
  r : Int
  from_ : Int
  sync : Bool
  ed : Ed
instance : Rep Ch := ⟨7, fun c => [.int .u8 c.r, .int .u8 c.from_, .bool c.sync, .int .i64 c.ed.kind, .string (S c.ed.key), .int .i64 c.ed.label, .string (S c.ed.value)], by decide, fun _ => rfl, fun _ => rfl⟩
structure Ch.Ok (c : Ch) : Prop where
  r : 0 ≤ c.r ∧ c.r ≤ 255
  f : 0 ≤ c.from_ ∧ c.from_ ≤ 255
  k : c.ed.key.length ≤ 140737488355328
  v : c.ed.value.length ≤ 140737488355328
def heightS (c : Clk) (s : Int × Bool) (e : Ev) : Int × Bool := if c.has e.r e.n = true ∧ (s.2 = false ∨ s.1 < e.h) then (e.h, true) else s
def heightP (out : List Ev) (c : Clk) : Int := (out.foldl (heightS c) (0, false)).1 + 1
/-- What is made so far, and what each replica has. -/
def mkStep (s : List Ev × List Clk) (ch : Ch) : List Ev × List Clk :=
  let c := s.2.getD (ch.r % 5).toNat Clk.zero
  if ch.sync = true then (s.1, s.2.set (ch.r % 5).toNat (c.join (s.2.getD (ch.from_ % 5).toNat Clk.zero)))
  else (s.1 ++ [⟨ch.r % 5, c.get (ch.r % 5).toNat + 1, c, heightP s.1 c, ch.ed.fit⟩], s.2.set (ch.r % 5).toNat (c.set (ch.r % 5).toNat (c.get (ch.r % 5).toNat + 1)))
def makeS (l : List Ch) : List Ev × List Clk := l.foldl mkStep ([], List.replicate 5 Clk.zero)
def makeP (l : List Ch) : List Ev := (makeS l).1
theorem makeS_take (l : List Ch) (i : Nat) (h : i < l.length) : makeS (l.take (i + 1)) = mkStep (makeS (l.take i)) (l[i]'h) := by
  rw [List.take_succ_eq_append_getElem h]
  unfold makeS
  rw [List.foldl_append]
  rfl
/-- Small numbers. -/
structure MkOk (m : Int) (s : List Ev × List Clk) : Prop where
  five : s.2.length = 5
  clk : ∀ c ∈ s.2, ∀ j, 0 ≤ c.get j ∧ c.get j ≤ m
  len : (s.1.length : Int) ≤ m
  n : ∀ e ∈ s.1, 1 ≤ e.n ∧ e.n ≤ m
  r : ∀ e ∈ s.1, 0 ≤ e.r ∧ e.r < 5
  h : ∀ e ∈ s.1, 1 ≤ e.h ∧ e.h ≤ m
theorem clk_join_get (a b : Clk) (j : Nat) : (a.join b).get j = max (a.get j) (b.get j) ∨ (a.join b).get j = 0 := by
  match j with
  | 0 => exact .inl rfl
  | 1 => exact .inl rfl
  | 2 => exact .inl rfl
  | 3 => exact .inl rfl
  | 4 => exact .inl rfl
  | j + 5 => right; simp [Clk.get]
theorem height_bd {out : List Ev} {c : Clk} {m : Int} (h : ∀ e ∈ out, 1 ≤ e.h ∧ e.h ≤ m) (hm : 0 ≤ m) : 0 ≤ (out.foldl (heightS c) (0, false)).1 ∧ (out.foldl (heightS c) (0, false)).1 ≤ m := by
  have key : ∀ (l : List Ev) (s : Int × Bool), (∀ e ∈ l, 1 ≤ e.h ∧ e.h ≤ m) → 0 ≤ s.1 ∧ s.1 ≤ m → 0 ≤ (l.foldl (heightS c) s).1 ∧ (l.foldl (heightS c) s).1 ≤ m := by
    intro l
    induction l with
    | nil => intro s _ h; exact h
    | cons a l ih =>
      intro s hl hs
      refine ih _ (fun e he => hl e (List.mem_cons_of_mem _ he)) ?_
      have := hl a (List.mem_cons_self ..)
      unfold heightS
      split
      · exact ⟨by show 0 ≤ a.h; omega, this.2⟩
      · exact hs
  exact key out (0, false) h ⟨Int.le_refl _, hm⟩
theorem getD_mem {s : List Clk} (h5 : s.length = 5) {r : Int} (h0 : 0 ≤ r ∧ r ≤ 255) : ∃ h : (r % 5).toNat < s.length, s.getD (r % 5).toNat Clk.zero = s[(r % 5).toNat]'h := by
  have h : (r % 5).toNat < s.length := by omega
  exact ⟨h, by simp [List.getD, h]⟩
theorem MkOk.step {m : Int} {s : List Ev × List Clk} (k : MkOk m s) {ch : Ch} (hc : ch.Ok) (hm : 0 ≤ m) : MkOk (m + 1) (mkStep s ch) := by
  obtain ⟨h5, h1, h2, h3, h4, h6⟩ := k
  obtain ⟨hl, he⟩ := getD_mem h5 hc.r
  obtain ⟨hl2, he2⟩ := getD_mem h5 hc.f
  have hcm := h1 _ (List.getElem_mem hl)
  have hcm2 := h1 _ (List.getElem_mem hl2)
  rw [← he] at hcm
  rw [← he2] at hcm2
  unfold mkStep
  simp only
  split
  · refine ⟨by simpa using h5, fun c hx j => ?_, by show (s.1.length : Int) ≤ m + 1; omega, fun e hx => by have := h3 e hx; omega, h4, fun e hx => by have := h6 e hx; omega⟩
    rcases List.mem_or_eq_of_mem_set hx with hx | rfl
    · have := h1 c hx j; omega
    · have a := hcm j
      have b := hcm2 j
      rcases clk_join_get (s.2.getD (ch.r % 5).toNat Clk.zero) (s.2.getD (ch.from_ % 5).toNat Clk.zero) j with h | h <;> rw [h] <;> omega
  · have hg := hcm (ch.r % 5).toNat
    have hb := height_bd (c := s.2.getD (ch.r % 5).toNat Clk.zero) h6 hm
    refine ⟨by simpa using h5, fun c hx j => ?_, by simp; omega, fun e hx => ?_, fun e hx => ?_, fun e hx => ?_⟩
    · rcases List.mem_or_eq_of_mem_set hx with hx | rfl
      · have := h1 c hx j; omega
      · rw [Clk.get_set _ _ _ _ (by omega)]
        split
        · omega
        · have := hcm j; omega
    · rcases List.mem_append.1 hx with hx | hx
      · have := h3 e hx; omega
      · simp only [List.mem_singleton] at hx; subst hx; simp only; omega
    · rcases List.mem_append.1 hx with hx | hx
      · exact h4 e hx
      · simp only [List.mem_singleton] at hx; subst hx; simp only; omega
    · rcases List.mem_append.1 hx with hx | hx
      · have := h6 e hx; omega
      · simp only [List.mem_singleton] at hx; subst hx; simp only [heightP]; omega
theorem makeS_ok (l : List Ch) (h : ∀ c ∈ l, c.Ok) : MkOk l.length (makeS l) := by
  have key : ∀ i, i ≤ l.length → MkOk i (makeS (l.take i)) := by
    intro i
    induction i with
    | zero =>
      intro _
      refine ⟨rfl, fun c hc j => ?_, by simp [makeS], by simp [makeS], by simp [makeS], by simp [makeS]⟩
      have : c = Clk.zero := List.eq_of_mem_replicate hc
      subst this
      match j with
      | 0 => decide
      | 1 => decide
      | 2 => decide
      | 3 => decide
      | 4 => decide
      | j + 5 => simp [Clk.get]
    | succ i ih =>
      intro hi
      rw [makeS_take l i (by omega)]
      have := (ih (by omega)).step (h _ (List.getElem_mem (by omega : i < l.length))) (by omega)
      simpa using this
  have := key l.length (Nat.le_refl _)
  rwa [List.take_length] at this
end Go.Proofs.Ytcclbplccnaonaa
/- Package text over parts of memory. No condition. -/
namespace Go.Proofs.Ytcclbplccnaonaa
open Go.RowKit
set_option linter.unusedSimpArgs false
set_option linter.unusedVariables false
def keyE (l : List UInt8) : Int := if 1 ≤ l.length ∧ l.length ≤ 8 ∧ l.all letter = true then 0 else 10
def labelE (n : Int) : Int := if 0 ≤ n ∧ n < 2 then 0 else 11
def valueE (l : List UInt8) : Int := if 1 ≤ l.length ∧ l.length ≤ 12 then 0 else 12
/-- What is told of an edit. -/
def Ed.err (e : Ed) : Int :=
  if e.kind < 1 ∨ 5 < e.kind then 1 else if keyE e.key ≠ 0 then keyE e.key
  else if e.kind = 1 ∨ e.kind = 2 then (if e.label ≠ 0 then 11 else if e.value ≠ [] then 12 else 0)
  else if labelE e.label ≠ 0 then labelE e.label else valueE e.value
theorem keyErr_S (l : List UInt8) : keyErr (S l) = keyE l := by simp [keyErr, keyE, S_size]
theorem valueErr_S (l : List UInt8) : valueErr (S l) = valueE l := by simp [valueErr, valueE, S_size]
theorem key_fnE (s : List UInt8) (L : List Assn) (hs : s.length ≤ 9223372036854775807) : Fn Try.prog 52 #[.string (S s)] L fun v L' => v = .int .i64 (keyE s) ∧ L' = L := by
  rw [← keyErr_S]; exact Fn.of_kp fun w => text_Key _ w (by rw [S_size]; exact hs)
theorem label_fnE (n : Int) (L : List Assn) : Fn Try.prog 53 #[.int .i64 n] L fun v L' => v = .int .i64 (labelE n) ∧ L' = L := Fn.of_kp fun w => text_Label n w
theorem value_fnE (s : List UInt8) (L : List Assn) (hs : s.length ≤ 9223372036854775807) : Fn Try.prog 54 #[.string (S s)] L fun v L' => v = .int .i64 (valueE s) ∧ L' = L := by
  rw [← valueErr_S]; exact Fn.of_kp fun w => text_Value _ w (by rw [S_size]; exact hs)
set_option maxRecDepth 20000 attribute [local irreducible] Ex ExL Fn thn inb rnd fin meet Tab Mix mxEnd Val Sats RdT Rd RowT Row Blk Sub Fac ResV RVal Evs subs subs3 Hid Capd
set_option maxHeartbeats 1000000 in
theorem textEdit_fn (e : Ed) (L : List Assn) (hk : e.key.length ≤ 9223372036854775807) (hv : e.value.length ≤ 9223372036854775807) : Fn Try.prog 45 #[.agg (Rep.cells e).toArray] L fun v L' => v = .int .i64 e.err ∧ L' = L := by
  have h10 : keyE e.key = 0 ∨ keyE e.key = 10 := by unfold keyE; split <;> simp
  have h11 : labelE e.label = 0 ∨ labelE e.label = 11 := by unfold labelE; split <;> simp
  refine Fn.of_ex Try.func45 rfl Try.ntmps45 rfl ?_
  (repeat' (first | refine ExL.val (by rfl) (by rfl) (by rfl) rV ?_ | (first | refine Ex.seq ?_ | refine Ex.region ?_ | refine ExL.nil ?_ | refine thn_n ?_ | refine Ex.cond_t (by rfl) ?_ | refine Ex.cond_f (by rfl) ?_ | refine Ex.skip ?_ | refine Ex.block ?_ | refine Ex.exit ?_ | refine Ex.ret ?_ | refine thn_exit ?_ | refine thn_ret ?_ | refine inb_n ?_ | refine inb_hit (by rfl) ?_ | refine inb_miss (by rfl) ?_ | refine inb_ret ?_ | refine rnd_exit ?_ | refine rnd_ret ?_ | refine meet_ret ?_ | refine meet_exit ?_) | (apply exlGuard; first | refine ExL.gskip (by rfl) (by rfl) (by rfl) (by rfl) (by rfl) (by rfl) ?_ | refine ExL.gtake (by rfl) (by rfl) (by rfl) (by rfl) ?_ | refine ExL.gskipU (by rfl) (by rfl) (by rfl) (by rfl) ?_ | (refine ExL.gsplit (by rfl) (by rfl) (by rfl) (fun h => ?_) (fun h => ?_) <;> try (exfalso; omega))) | (first | refine st_new_ (by rfl) rE (fun g => ?_) | refine st_boxA (by rfl) (by rfl) (fun g => ?_) | refine st_box1 (by rfl) rE rN (fun g => ?_) | (apply exlStore; first | refine st_store1_ _ (by rfl) rK rE rN (by rfl) (by rfl) rE rE ?_ | refine st_storeW_ _ (by rfl) rK (by rfl) rC (by rfl) (by rfl) (by rfl) rE ?_ | refine st_storeR _ (by rfl) rK (by rfl) rE (by rfl) (by rfl) rE ?_ | refine st_storeA_ _ (by rfl) rK (by rfl) rC (by rfl) (by rfl) (by rfl) rE rE ?_ | refine st_storeB _ (by rfl) (by rfl) rO rO rK (by rfl) rO ?_ | refine st_storeG _ (by rfl) rK rE rN (by rfl) rO (fun cs hcs => ?_)) | refine st_slice0 (by rfl) (by rfl) (by rfl) (by rfl) (fun g => ?_) | refine st_slice1T (by rfl) (by rfl) (by rfl) (by rfl) (fun g => ?_) | refine st_makeT (by rfl) (by rfl) (by rfl) (by rfl) rE (by rfl) rO rO (fun v o => ?_) | (apply exlCopy; first | refine st_copyW _ (by rfl) rE rK rE rD (by rfl) rE (by rfl) (fun zs hzs => ?_) | refine st_copyS _ (by rfl) (by rfl) rK rE rD (by rfl) rE (by rfl) rO rO (fun zs hzs => ?_)) | refine st_sliceB (by rfl) (by rfl) (by rfl) (by rfl) (by rfl) (by rfl) (by rfl) rL rE rE (by rfl) (fun g => ?_) | refine st_slice1I (by rfl) (by rfl) (by rfl) (by rfl) (by rfl) (by rfl) (fun g => ?_) | refine st_slice1B (by rfl) (by rfl) (by rfl) (by rfl) (by rfl) (by rfl) rO rO (fun g => ?_) | refine st_slice1S (by rfl) (by rfl) (by rfl) (by rfl) (by rfl) (by rfl) (fun g => ?_) | refine st_slice2B (by rfl) (by rfl) (by rfl) (by rfl) (by rfl) (by rfl) (by rfl) rO rO rO rO (fun g => ?_) | (apply exlConv; first | refine st_bytes (by rfl) (by rfl) (by rfl) (by rfl) (by rfl) rO (fun v o => ?_) | refine st_mark _ (by rfl) (by rfl) rK (by rfl) (by rfl) (by rfl) ?_) | refine st_clear _ (0 : UInt8) (by rfl) rK (by rfl) (by rfl) (by rfl) (by rfl) (by rfl) rO ?_ | refine st_clearT _ (by rfl) rK rO (by rfl) (by rfl) rO rE ?_ | (apply exlAppend; first | refine st_app0 (by rfl) (by rfl) rE rD (by rfl) rE (by rfl) rE (by rfl) (by rfl) (by rfl) rO (fun v o => ?_) | refine st_app _ (by rfl) rE rK rE rD (by rfl) rE (by rfl) rE (by rfl) (by rfl) (by rfl) rO (fun v o => ?_) | refine st_shift _ (by rfl) (by rfl) (by rfl) rK rO (by rfl) (by rfl) (by rfl) rO rO rE ?_)) | (refine Ex.cond_d (by rfl) (fun h => ?_) (fun h => ?_) <;> try (exfalso; omega))))
  · (first | refine fin_ret rS ?_ | refine fin_norm rS ?_)
    exact ⟨_, rB, vint (by unfold Ed.err; rw [if_pos (by omega)]), rfl⟩
  · (first | refine fin_ret rS ?_ | refine fin_norm rS ?_)
    exact ⟨_, rB, vint (by unfold Ed.err; rw [if_pos (by omega)]), rfl⟩
  (refine st_callIs [] (by rfl) Try.call52 (by rfl) (by rfl) (key_fnE _ _ hk) ?_; rintro _ _ ⟨rfl, rfl⟩)
  (repeat' (first | refine ExL.val (by rfl) (by rfl) (by rfl) rV ?_ | (first | refine Ex.seq ?_ | refine Ex.region ?_ | refine ExL.nil ?_ | refine thn_n ?_ | refine Ex.cond_t (by rfl) ?_ | refine Ex.cond_f (by rfl) ?_ | refine Ex.skip ?_ | refine Ex.block ?_ | refine Ex.exit ?_ | refine Ex.ret ?_ | refine thn_exit ?_ | refine thn_ret ?_ | refine inb_n ?_ | refine inb_hit (by rfl) ?_ | refine inb_miss (by rfl) ?_ | refine inb_ret ?_ | refine rnd_exit ?_ | refine rnd_ret ?_ | refine meet_ret ?_ | refine meet_exit ?_) | (apply exlGuard; first | refine ExL.gskip (by rfl) (by rfl) (by rfl) (by rfl) (by rfl) (by rfl) ?_ | refine ExL.gtake (by rfl) (by rfl) (by rfl) (by rfl) ?_ | refine ExL.gskipU (by rfl) (by rfl) (by rfl) (by rfl) ?_ | (refine ExL.gsplit (by rfl) (by rfl) (by rfl) (fun h => ?_) (fun h => ?_) <;> try (exfalso; omega))) | (first | refine st_new_ (by rfl) rE (fun g => ?_) | refine st_boxA (by rfl) (by rfl) (fun g => ?_) | refine st_box1 (by rfl) rE rN (fun g => ?_) | (apply exlStore; first | refine st_store1_ _ (by rfl) rK rE rN (by rfl) (by rfl) rE rE ?_ | refine st_storeW_ _ (by rfl) rK (by rfl) rC (by rfl) (by rfl) (by rfl) rE ?_ | refine st_storeR _ (by rfl) rK (by rfl) rE (by rfl) (by rfl) rE ?_ | refine st_storeA_ _ (by rfl) rK (by rfl) rC (by rfl) (by rfl) (by rfl) rE rE ?_ | refine st_storeB _ (by rfl) (by rfl) rO rO rK (by rfl) rO ?_ | refine st_storeG _ (by rfl) rK rE rN (by rfl) rO (fun cs hcs => ?_)) | refine st_slice0 (by rfl) (by rfl) (by rfl) (by rfl) (fun g => ?_) | refine st_slice1T (by rfl) (by rfl) (by rfl) (by rfl) (fun g => ?_) | refine st_makeT (by rfl) (by rfl) (by rfl) (by rfl) rE (by rfl) rO rO (fun v o => ?_) | (apply exlCopy; first | refine st_copyW _ (by rfl) rE rK rE rD (by rfl) rE (by rfl) (fun zs hzs => ?_) | refine st_copyS _ (by rfl) (by rfl) rK rE rD (by rfl) rE (by rfl) rO rO (fun zs hzs => ?_)) | refine st_sliceB (by rfl) (by rfl) (by rfl) (by rfl) (by rfl) (by rfl) (by rfl) rL rE rE (by rfl) (fun g => ?_) | refine st_slice1I (by rfl) (by rfl) (by rfl) (by rfl) (by rfl) (by rfl) (fun g => ?_) | refine st_slice1B (by rfl) (by rfl) (by rfl) (by rfl) (by rfl) (by rfl) rO rO (fun g => ?_) | refine st_slice1S (by rfl) (by rfl) (by rfl) (by rfl) (by rfl) (by rfl) (fun g => ?_) | refine st_slice2B (by rfl) (by rfl) (by rfl) (by rfl) (by rfl) (by rfl) (by rfl) rO rO rO rO (fun g => ?_) | (apply exlConv; first | refine st_bytes (by rfl) (by rfl) (by rfl) (by rfl) (by rfl) rO (fun v o => ?_) | refine st_mark _ (by rfl) (by rfl) rK (by rfl) (by rfl) (by rfl) ?_) | refine st_clear _ (0 : UInt8) (by rfl) rK (by rfl) (by rfl) (by rfl) (by rfl) (by rfl) rO ?_ | refine st_clearT _ (by rfl) rK rO (by rfl) (by rfl) rO rE ?_ | (apply exlAppend; first | refine st_app0 (by rfl) (by rfl) rE rD (by rfl) rE (by rfl) rE (by rfl) (by rfl) (by rfl) rO (fun v o => ?_) | refine st_app _ (by rfl) rE rK rE rD (by rfl) rE (by rfl) rE (by rfl) (by rfl) (by rfl) rO (fun v o => ?_) | refine st_shift _ (by rfl) (by rfl) (by rfl) rK rO (by rfl) (by rfl) (by rfl) rO rO rE ?_)) | (refine Ex.cond_d (by rfl) (fun h => ?_) (fun h => ?_) <;> try (exfalso; omega))))
  all_goals first
    | ((refine st_callIs [] (by rfl) Try.call53 (by rfl) (by rfl) (label_fnE _ _) ?_; rintro _ _ ⟨rfl, rfl⟩); (repeat' (first | refine ExL.val (by rfl) (by rfl) (by rfl) rV ?_ | (first | refine Ex.seq ?_ | refine Ex.region ?_ | refine ExL.nil ?_ | refine thn_n ?_ | refine Ex.cond_t (by rfl) ?_ | refine Ex.cond_f (by rfl) ?_ | refine Ex.skip ?_ | refine Ex.block ?_ | refine Ex.exit ?_ | refine Ex.ret ?_ | refine thn_exit ?_ | refine thn_ret ?_ | refine inb_n ?_ | refine inb_hit (by rfl) ?_ | refine inb_miss (by rfl) ?_ | refine inb_ret ?_ | refine rnd_exit ?_ | refine rnd_ret ?_ | refine meet_ret ?_ | refine meet_exit ?_) | (apply exlGuard; first | refine ExL.gskip (by rfl) (by rfl) (by rfl) (by rfl) (by rfl) (by rfl) ?_ | refine ExL.gtake (by rfl) (by rfl) (by rfl) (by rfl) ?_ | refine ExL.gskipU (by rfl) (by rfl) (by rfl) (by rfl) ?_ | (refine ExL.gsplit (by rfl) (by rfl) (by rfl) (fun h => ?_) (fun h => ?_) <;> try (exfalso; omega))) | (first | refine st_new_ (by rfl) rE (fun g => ?_) | refine st_boxA (by rfl) (by rfl) (fun g => ?_) | refine st_box1 (by rfl) rE rN (fun g => ?_) | (apply exlStore; first | refine st_store1_ _ (by rfl) rK rE rN (by rfl) (by rfl) rE rE ?_ | refine st_storeW_ _ (by rfl) rK (by rfl) rC (by rfl) (by rfl) (by rfl) rE ?_ | refine st_storeR _ (by rfl) rK (by rfl) rE (by rfl) (by rfl) rE ?_ | refine st_storeA_ _ (by rfl) rK (by rfl) rC (by rfl) (by rfl) (by rfl) rE rE ?_ | refine st_storeB _ (by rfl) (by rfl) rO rO rK (by rfl) rO ?_ | refine st_storeG _ (by rfl) rK rE rN (by rfl) rO (fun cs hcs => ?_)) | refine st_slice0 (by rfl) (by rfl) (by rfl) (by rfl) (fun g => ?_) | refine st_slice1T (by rfl) (by rfl) (by rfl) (by rfl) (fun g => ?_) | refine st_makeT (by rfl) (by rfl) (by rfl) (by rfl) rE (by rfl) rO rO (fun v o => ?_) | (apply exlCopy; first | refine st_copyW _ (by rfl) rE rK rE rD (by rfl) rE (by rfl) (fun zs hzs => ?_) | refine st_copyS _ (by rfl) (by rfl) rK rE rD (by rfl) rE (by rfl) rO rO (fun zs hzs => ?_)) | refine st_sliceB (by rfl) (by rfl) (by rfl) (by rfl) (by rfl) (by rfl) (by rfl) rL rE rE (by rfl) (fun g => ?_) | refine st_slice1I (by rfl) (by rfl) (by rfl) (by rfl) (by rfl) (by rfl) (fun g => ?_) | refine st_slice1B (by rfl) (by rfl) (by rfl) (by rfl) (by rfl) (by rfl) rO rO (fun g => ?_) | refine st_slice1S (by rfl) (by rfl) (by rfl) (by rfl) (by rfl) (by rfl) (fun g => ?_) | refine st_slice2B (by rfl) (by rfl) (by rfl) (by rfl) (by rfl) (by rfl) (by rfl) rO rO rO rO (fun g => ?_) | (apply exlConv; first | refine st_bytes (by rfl) (by rfl) (by rfl) (by rfl) (by rfl) rO (fun v o => ?_) | refine st_mark _ (by rfl) (by rfl) rK (by rfl) (by rfl) (by rfl) ?_) | refine st_clear _ (0 : UInt8) (by rfl) rK (by rfl) (by rfl) (by rfl) (by rfl) (by rfl) rO ?_ | refine st_clearT _ (by rfl) rK rO (by rfl) (by rfl) rO rE ?_ | (apply exlAppend; first | refine st_app0 (by rfl) (by rfl) rE rD (by rfl) rE (by rfl) rE (by rfl) (by rfl) (by rfl) rO (fun v o => ?_) | refine st_app _ (by rfl) rE rK rE rD (by rfl) rE (by rfl) rE (by rfl) (by rfl) (by rfl) rO (fun v o => ?_) | refine st_shift _ (by rfl) (by rfl) (by rfl) rK rO (by rfl) (by rfl) (by rfl) rO rO rE ?_)) | (refine Ex.cond_d (by rfl) (fun h => ?_) (fun h => ?_) <;> try (exfalso; omega)))))
    | skip
  all_goals first
    | ((refine st_callIs [] (by rfl) Try.call54 (by rfl) (by rfl) (value_fnE _ _ hv) ?_; rintro _ _ ⟨rfl, rfl⟩); (refine rn ?_; (repeat (first | intro (g : Nat) | intro (v : Value) | intro (o : Value.oneCell' _ = true) | intro (cs : List Value) | intro (hcs : _ = List.set _ _ _) | intro (zs : List _) | intro (hzs : _)))))
    | skip
  all_goals
    (first | refine fin_ret rS ?_ | refine fin_norm rS ?_)
    refine ⟨_, rB, vint ?_, rfl⟩
    unfold Ed.err
    repeat (first | rw [if_pos (by first | omega | assumption)] | rw [if_neg (by first | omega | assumption)])
end Go.Proofs.Ytcclbplccnaonaa
/- kithref05.Fit, walked. No condition. -/
namespace Go.Proofs.Ytcclbplccnaonaa
open Go.RowKit
set_option linter.unusedSimpArgs false
set_option linter.unusedVariables false
set_option maxRecDepth 20000 attribute [local irreducible] Ex ExL Fn thn inb rnd fin meet Tab Mix mxEnd Val Sats RdT Rd RowT Row Blk Sub Fac ResV RVal Evs subs subs3 Hid Capd
set_option maxHeartbeats 1000000 in
theorem fit_spec (e : Ed) (L : List Assn) (hk : e.key.length ≤ 140737488355328) (hv : e.value.length ≤ 140737488355328) : Fn Try.prog 29 #[e.val] L fun v L' => v = e.fit.val ∧ L' = L := by
  obtain ⟨kind, key, label, value⟩ := e
  have ht := tmod5 kind
  simp only [Ed.val, Ed.cells] at *
  refine Fn.of_ex Try.func29 rfl Try.ntmps29 rfl ?_
  (refine rn ?_; (repeat (first | intro (g : Nat) | intro (v : Value) | intro (o : Value.oneCell' _ = true) | intro (cs : List Value) | intro (hcs : _ = List.set _ _ _) | intro (zs : List _) | intro (hzs : _))))
  refine Ex.loopS [5, 6] (fun m vs => ∃ k : Nat, k ≤ key.length ∧ m = key.length - k ∧ vs = [.int .i64 (sumB (key.take k)), .int .i64 k]) key.length ?_ ?_
  · exact ⟨0, by omega, by omega, rfl⟩
  rintro m vs g1 ⟨k, hk, rfl, rfl⟩
  have hb := sumB_bd (key.take k)
  simp only [List.length_take] at hb
  by_cases hlt : k < key.length
  · have := key[k].toNat_lt
    (refine rn ?_; (repeat (first | intro (g : Nat) | intro (v : Value) | intro (o : Value.oneCell' _ = true) | intro (cs : List Value) | intro (hcs : _ = List.set _ _ _) | intro (zs : List _) | intro (hzs : _))))
    exact rnd_n ⟨key.length - (k + 1), _, by omega, Sub.refl _, ⟨k + 1, by omega, rfl, lcons (vint (sumB_succ key k hlt).symm) (lcons (vint (by omega)) rfl)⟩, rfl⟩
  (refine rn ?_; (repeat (first | intro (g : Nat) | intro (v : Value) | intro (o : Value.oneCell' _ = true) | intro (cs : List Value) | intro (hcs : _ = List.set _ _ _) | intro (zs : List _) | intro (hzs : _))))
  obtain rfl : k = key.length := by omega
  rw [List.take_length] at *
  refine Ex.loopS [7, 8] (fun m vs => ∃ k : Nat, k ≤ value.length ∧ m = value.length - k ∧ vs = [.int .i64 (sumB (value.take k)), .int .i64 k]) value.length ?_ ?_
  · exact ⟨0, by omega, by omega, rfl⟩
  rintro m vs g1 ⟨k, hk, rfl, rfl⟩
  have hb2 := sumB_bd (value.take k)
  simp only [List.length_take] at hb2
  by_cases hlt : k < value.length
  · have := value[k].toNat_lt
    (refine rn ?_; (repeat (first | intro (g : Nat) | intro (v : Value) | intro (o : Value.oneCell' _ = true) | intro (cs : List Value) | intro (hcs : _ = List.set _ _ _) | intro (zs : List _) | intro (hzs : _))))
    exact rnd_n ⟨value.length - (k + 1), _, by omega, Sub.refl _, ⟨k + 1, by omega, rfl, lcons (vint (sumB_succ value k hlt).symm) (lcons (vint (by omega)) rfl)⟩, rfl⟩
  (refine rn ?_; (repeat (first | intro (g : Nat) | intro (v : Value) | intro (o : Value.oneCell' _ = true) | intro (cs : List Value) | intro (hcs : _ = List.set _ _ _) | intro (zs : List _) | intro (hzs : _))))
  obtain rfl : k = value.length := by omega
  rw [List.take_length] at *
  have hm3 : sumB key % 3 = 0 ∨ sumB key % 3 = 1 ∨ sumB key % 3 = 2 := by omega
  have hm4 : sumB value % 4 = 0 ∨ sumB value % 4 = 1 ∨ sumB value % 4 = 2 ∨ sumB value % 4 = 3 := by omega
  have hk2 : 2 < 1 + (kind.tmod 5 + 5) % 5 ∨ ¬ 2 < 1 + (kind.tmod 5 + 5) % 5 := by omega
  rcases hm3 with hm3 | hm3 | hm3
  all_goals
    (refine Ex.mixA 12 _ rfl (by kernel_rfl) (Fac.refl _) ?_; (refine mn ?_; (repeat (first | intro (g : Nat) | intro (v : Value) | intro (o : Value.oneCell' _ = true) | intro (cs : List Value) | intro (hcs : _ = List.set _ _ _) | intro (zs : List _) | intro (hzs : _)))))
    (repeat' (first | refine ExL.val (by rfl) (by rfl) (by rfl) rV ?_ | (first | refine Ex.seq ?_ | refine Ex.region ?_ | refine ExL.nil ?_ | refine thn_n ?_ | refine Ex.cond_t (by rfl) ?_ | refine Ex.cond_f (by rfl) ?_ | refine Ex.skip ?_ | refine Ex.block ?_ | refine Ex.exit ?_ | refine Ex.ret ?_ | refine thn_exit ?_ | refine thn_ret ?_ | refine inb_n ?_ | refine inb_hit (by rfl) ?_ | refine inb_miss (by rfl) ?_ | refine inb_ret ?_ | refine rnd_exit ?_ | refine rnd_ret ?_ | refine meet_ret ?_ | refine meet_exit ?_) | (apply exlGuard; first | refine ExL.gskip (by rfl) (by rfl) (by rfl) (by rfl) (by rfl) (by rfl) ?_ | refine ExL.gtake (by rfl) (by rfl) (by rfl) (by rfl) ?_ | refine ExL.gskipU (by rfl) (by rfl) (by rfl) (by rfl) ?_ | (refine ExL.gsplit (by rfl) (by rfl) (by rfl) (fun h => ?_) (fun h => ?_) <;> try (exfalso; omega))) | (first | refine st_new_ (by rfl) rE (fun g => ?_) | refine st_boxA (by rfl) (by rfl) (fun g => ?_) | refine st_box1 (by rfl) rE rN (fun g => ?_) | (apply exlStore; first | refine st_store1_ _ (by rfl) rK rE rN (by rfl) (by rfl) rE rE ?_ | refine st_storeW_ _ (by rfl) rK (by rfl) rC (by rfl) (by rfl) (by rfl) rE ?_ | refine st_storeR _ (by rfl) rK (by rfl) rE (by rfl) (by rfl) rE ?_ | refine st_storeA_ _ (by rfl) rK (by rfl) rC (by rfl) (by rfl) (by rfl) rE rE ?_ | refine st_storeB _ (by rfl) (by rfl) rO rO rK (by rfl) rO ?_ | refine st_storeG _ (by rfl) rK rE rN (by rfl) rO (fun cs hcs => ?_)) | refine st_slice0 (by rfl) (by rfl) (by rfl) (by rfl) (fun g => ?_) | refine st_slice1T (by rfl) (by rfl) (by rfl) (by rfl) (fun g => ?_) | refine st_makeT (by rfl) (by rfl) (by rfl) (by rfl) rE (by rfl) rO rO (fun v o => ?_) | (apply exlCopy; first | refine st_copyW _ (by rfl) rE rK rE rD (by rfl) rE (by rfl) (fun zs hzs => ?_) | refine st_copyS _ (by rfl) (by rfl) rK rE rD (by rfl) rE (by rfl) rO rO (fun zs hzs => ?_)) | refine st_sliceB (by rfl) (by rfl) (by rfl) (by rfl) (by rfl) (by rfl) (by rfl) rL rE rE (by rfl) (fun g => ?_) | refine st_slice1I (by rfl) (by rfl) (by rfl) (by rfl) (by rfl) (by rfl) (fun g => ?_) | refine st_slice1B (by rfl) (by rfl) (by rfl) (by rfl) (by rfl) (by rfl) rO rO (fun g => ?_) | refine st_slice1S (by rfl) (by rfl) (by rfl) (by rfl) (by rfl) (by rfl) (fun g => ?_) | refine st_slice2B (by rfl) (by rfl) (by rfl) (by rfl) (by rfl) (by rfl) (by rfl) rO rO rO rO (fun g => ?_) | (apply exlConv; first | refine st_bytes (by rfl) (by rfl) (by rfl) (by rfl) (by rfl) rO (fun v o => ?_) | refine st_mark _ (by rfl) (by rfl) rK (by rfl) (by rfl) (by rfl) ?_) | refine st_clear _ (0 : UInt8) (by rfl) rK (by rfl) (by rfl) (by rfl) (by rfl) (by rfl) rO ?_ | refine st_clearT _ (by rfl) rK rO (by rfl) (by rfl) rO rE ?_ | (apply exlAppend; first | refine st_app0 (by rfl) (by rfl) rE rD (by rfl) rE (by rfl) rE (by rfl) (by rfl) (by rfl) rO (fun v o => ?_) | refine st_app _ (by rfl) rE rK rE rD (by rfl) rE (by rfl) rE (by rfl) (by rfl) (by rfl) rO (fun v o => ?_) | refine st_shift _ (by rfl) (by rfl) (by rfl) rK rO (by rfl) (by rfl) (by rfl) rO rO rE ?_)) | (refine Ex.cond_d (by rfl) (fun h => ?_) (fun h => ?_) <;> try (exfalso; omega))))
  all_goals by_cases hq : 2 < 1 + (kind.tmod 5 + 5) % 5
  all_goals first | (exfalso; omega) | skip
  all_goals first | ((first | refine fin_ret rS ?_ | refine fin_norm rS ?_); exact ⟨_, rB, by simp only [Ed.fit, Ed.val, Ed.cells, hm3, if_neg hq]; rfl, rfl⟩) | skip
  all_goals
    rcases hm4 with hm4 | hm4 | hm4 | hm4 <;> rw [hm4]
    all_goals
      (refine rn ?_; (repeat (first | intro (g : Nat) | intro (v : Value) | intro (o : Value.oneCell' _ = true) | intro (cs : List Value) | intro (hcs : _ = List.set _ _ _) | intro (zs : List _) | intro (hzs : _))))
      skip
      (first | refine fin_ret rS ?_ | refine fin_norm rS ?_)
      exact ⟨_, rB, by simp only [Ed.fit, Ed.val, Ed.cells, hm3, hm4, if_pos hq, ExtLaws.i64_and1]; rfl, rfl⟩
end Go.Proofs.Ytcclbplccnaonaa
/- An edit that may be, made, may be. No condition. -/
namespace Go.Proofs.Ytcclbplccnaonaa
open Go.RowKit
set_option linter.unusedSimpArgs false
set_option linter.unusedVariables false
theorem fit_key (e : Ed) : e.fit.key = [97, 110, 110] ∨ e.fit.key = [98, 111, 98] ∨ e.fit.key = [99, 121] := by
  show fitKey _ = _ ∨ fitKey _ = _ ∨ fitKey _ = _
  unfold fitKey
  split
  · simp
  · split <;> simp
theorem fit_value (e : Ed) : e.fit.value = [] ∨ e.fit.value = [49] ∨ e.fit.value = [116, 119, 111] ∨ e.fit.value = [0, 255] ∨ e.fit.value = [116, 119, 101, 108, 118, 101, 32, 98, 121, 116, 101, 115] := by
  simp only [Ed.fit]
  split
  · unfold fitValue
    split
    · simp
    · split
      · simp
      · split <;> simp
  · simp
theorem fit_err (e : Ed) : e.fit.err = 0 := by
  have hk := fit_key e
  have hke : keyE e.fit.key = 0 := by rcases hk with h | h | h <;> rw [h] <;> decide
  have h1 := tmod5 e.kind
  have h2 : 0 ≤ (e.kind.tmod 5 + 5) % 5 ∧ (e.kind.tmod 5 + 5) % 5 < 5 := by omega
  have hkd : e.fit.kind = 1 + (e.kind.tmod 5 + 5) % 5 := rfl
  unfold Ed.err
  rw [if_neg (by omega), hke, if_neg (by omega)]
  by_cases h3 : 2 < 1 + (e.kind.tmod 5 + 5) % 5
  · rw [if_neg (by omega)]
    have hl : e.fit.label = e.label % 2 := by simp only [Ed.fit]; rw [if_pos h3]
    have hv : e.fit.value = fitValue (sumB e.value % 4) := by simp only [Ed.fit]; rw [if_pos h3]
    have hle : labelE e.fit.label = 0 := by rw [hl]; unfold labelE; rw [if_pos (by omega)]
    rw [hle, if_neg (by omega), hv]
    unfold fitValue
    split
    · decide
    · split
      · decide
      · split <;> decide
  · rw [if_pos (by omega)]
    have hl : e.fit.label = 0 := by simp only [Ed.fit]; rw [if_neg h3]
    have hv : e.fit.value = [] := by simp only [Ed.fit]; rw [if_neg h3]
    rw [hl, if_neg (by omega), hv, if_neg (by simp)]
end Go.Proofs.Ytcclbplccnaonaa
