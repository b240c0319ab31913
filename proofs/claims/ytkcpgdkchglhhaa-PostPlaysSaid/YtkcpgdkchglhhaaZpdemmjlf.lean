/- Several texts, one behind the other; each says in its head what it proves. No condition. -/
import Derived.Test.YtkcpgdkchglhhaaZdhenlcdj
import Derived.Test.YtkcpgdkchglhhaaZkkfeejpc
import Derived.Test.YtkcpgdkchglhhaaZldjckhlk
import Derived.Test.YtkcpgdkchglhhaaChecked
/- The things of this program, as Lean's. No condition. -/
namespace Go.Proofs.Ytkcpgdkchglhhaa
open Go.RowKit
set_option linter.unusedSimpArgs false
set_option linter.unusedVariables false
/-- An edit. -/
structure Ed where
  kind : Int
  key : List UInt8
  label : Int
  value : List UInt8
deriving DecidableEq
def Ed.cells (e : Ed) : List Value := [.int .i64 e.kind, .string (S e.key), .int .i64 e.label, .string (S e.value)]
def Ed.val (e : Ed) : Value := .agg e.cells.toArray
instance : Rep Ed := ⟨4, Ed.cells, by decide, fun _ => rfl, fun _ => rfl⟩
def sumB (l : List UInt8) : Int := (l.map fun b => (b.toNat : Int)).sum
theorem sumB_bd (l : List UInt8) : 0 ≤ sumB l ∧ sumB l ≤ 255 * l.length := by
  induction l with
  | nil => simp [sumB]
  | cons a l ih =>
    have := a.toNat_lt
    simp [sumB] at ih ⊢; omega
theorem sumB_succ (l : List UInt8) (k : Nat) (h : k < l.length) : sumB (l.take (k + 1)) = sumB (l.take k) + (l[k].toNat : Int) := by
  rw [List.take_succ_eq_append_getElem h]
  simp only [sumB, List.map_append, List.sum_append]
  simp
def fitKey (j : Int) : List UInt8 := if j = 0 then [97, 110, 110] else if j = 1 then [98, 111, 98] else [99, 121]
def fitValue (j : Int) : List UInt8 := if j = 0 then [49] else if j = 1 then [116, 119, 111] else if j = 2 then [0, 255] else [116, 119, 101, 108, 118, 101, 32, 98, 121, 116, 101, 115]
/-- An edit that may be, of anything. -/
def Ed.fit (e : Ed) : Ed :=
  ⟨1 + (e.kind.tmod 5 + 5) % 5, fitKey (sumB e.key % 3), if 2 < 1 + (e.kind.tmod 5 + 5) % 5 then e.label % 2 else 0, if 2 < 1 + (e.kind.tmod 5 + 5) % 5 then fitValue (sumB e.value % 4) else []⟩
theorem tmod5 (n : Int) : -5 < n.tmod 5 ∧ n.tmod 5 < 5 := ⟨Int.lt_tmod_of_pos n (by decide), Int.tmod_lt_of_pos n (by decide)⟩
end Go.Proofs.Ytkcpgdkchglhhaa
/- Clocks as five numbers. No condition. -/
namespace Go.Proofs.Ytkcpgdkchglhhaa
open Go.RowKit
set_option linter.unusedSimpArgs false
set_option linter.unusedVariables false
structure Clk where
  a : Int
  b : Int
  c : Int
  d : Int
  e : Int
  deriving DecidableEq
def Clk.get (k : Clk) (i : Nat) : Int := match i with | 0 => k.a | 1 => k.b | 2 => k.c | 3 => k.d | 4 => k.e | _ => 0
@[reducible] def Clk.val (k : Clk) : Value := .agg #[.int .i64 k.a, .int .i64 k.b, .int .i64 k.c, .int .i64 k.d, .int .i64 k.e]
def Clk.join (x y : Clk) : Clk := ⟨max x.a y.a, max x.b y.b, max x.c y.c, max x.d y.d, max x.e y.e⟩
def Clk.le (x y : Clk) : Bool := x.a ≤ y.a && x.b ≤ y.b && x.c ≤ y.c && x.d ≤ y.d && x.e ≤ y.e
def Clk.set (k : Clk) (i : Nat) (v : Int) : Clk := match i with | 0 => { k with a := v } | 1 => { k with b := v } | 2 => { k with c := v } | 3 => { k with d := v } | 4 => { k with e := v } | _ => k
def Clk.zero : Clk := ⟨0, 0, 0, 0, 0⟩
def Clk.next (k : Clk) (r : Int) : Clk × Int := if r < 0 ∨ 5 ≤ r then (Clk.zero, 1) else if 1048576 ≤ k.get r.toNat then (Clk.zero, 25) else (k.set r.toNat (k.get r.toNat + 1), 0)
def Clk.has (k : Clk) (r n : Int) : Bool := 0 ≤ r && r < 5 && 1 ≤ n && n ≤ k.get r.toNat
end Go.Proofs.Ytkcpgdkchglhhaa
/- Events. No condition. -/
namespace Go.Proofs.Ytkcpgdkchglhhaa
open Go.RowKit
set_option linter.unusedSimpArgs false
set_option linter.unusedVariables false
structure Ev where
  r : Int
  n : Int
  c : Clk
  h : Int
  ed : Ed
deriving DecidableEq
instance : Rep Clk := ⟨5, fun k => [.int .i64 k.a, .int .i64 k.b, .int .i64 k.c, .int .i64 k.d, .int .i64 k.e], by decide, fun _ => rfl, fun _ => rfl⟩
instance : Rep Ev := ⟨12, fun e => [.int .i64 e.r, .int .i64 e.n, .int .i64 e.c.a, .int .i64 e.c.b, .int .i64 e.c.c, .int .i64 e.c.d, .int .i64 e.c.e, .int .i64 e.h, .int .i64 e.ed.kind, .string (S e.ed.key), .int .i64 e.ed.label, .string (S e.ed.value)], by decide, fun _ => rfl, fun _ => rfl⟩
def Ev.zero : Ev := ⟨0, 0, ⟨0, 0, 0, 0, 0⟩, 0, ⟨0, [], 0, []⟩⟩
instance : Inhabited Ev := ⟨Ev.zero⟩
instance : EqT Try.prog 55 Ev := ⟨6, [.i .i64, .i .i64, .i .i64, .i .i64, .i .i64, .i .i64, .i .i64, .i .i64, .i .i64, .s, .i .i64, .s], by kernel_rfl, by kernel_rfl, by kernel_rfl, by kernel_rfl, fun _ => rfl, fun a b h => by
  obtain ⟨a1, a2, ⟨a3, a4, a5, a6, a7⟩, a8, ⟨a9, a10, a11, a12⟩⟩ := a
  obtain ⟨b1, b2, ⟨b3, b4, b5, b6, b7⟩, b8, ⟨b9, b10, b11, b12⟩⟩ := b
  simp only [Rep.cells, List.cons.injEq, Value.int.injEq, Value.string.injEq, S_inj, true_and, and_true] at h
  simp [h]⟩
instance : ZRep Try.prog 55 Ev := ⟨Ev.zero, by kernel_rfl, by kernel_rfl⟩
end Go.Proofs.Ytkcpgdkchglhhaa
/- A shelf, in plain words. No condition. -/
namespace Go.Proofs.Ytkcpgdkchglhhaa
open Go.RowKit
set_option linter.unusedSimpArgs false
set_option linter.unusedVariables false
/-- The numbers rise by one, from one that is not too great. -/
def GapOk (len : Int) (l : List Ev) : Prop := ∀ h : 0 < l.length, (l[0]'h).n ≤ len + 1 ∧ ∀ j (hj : j < l.length), (l[j]'hj).n = (l[0]'h).n + j
def fresh (len : Int) (l : List Ev) : List Ev := l.filter fun e => decide (len < e.n)
open Classical in
/-- What Put tells, and what it puts. -/
noncomputable def putR (most len k : Int) (l : List Ev) : Int × List Ev :=
  if ¬ GapOk len l then (20, []) else if fresh len l ≠ [] ∧ most < k + (fresh len l).length then (21, []) else (0, fresh len l)
theorem putR_gap {most len k : Int} {l : List Ev} (h : ¬ GapOk len l) : putR most len k l = (20, []) := by unfold putR; rw [if_pos h]
theorem putR_full {most len k : Int} {l : List Ev} (h : GapOk len l) (h2 : fresh len l ≠ []) (h3 : most < k + (fresh len l).length) : putR most len k l = (21, []) := by
  unfold putR; rw [if_neg (by simpa using h), if_pos ⟨h2, h3⟩]
theorem putR_ok {most len k : Int} {l : List Ev} (h : GapOk len l) (h2 : fresh len l = [] ∨ k + (fresh len l).length ≤ most) : putR most len k l = (0, fresh len l) := by
  unfold putR; rw [if_neg (by simpa using h), if_neg (by rintro ⟨a, b⟩; rcases h2 with h2 | h2; exact a h2; omega)]
/-- What is left of a row whose first ones are not new. -/
theorem fresh_drop {len : Int} {l : List Ev} (h : GapOk len l) (j : Nat) (hj : j ≤ l.length) (ho : ∀ i (hi : i < l.length), i < j → (l[i]'hi).n ≤ len) (hn : j = l.length ∨ ∃ h : j < l.length, len < (l[j]'h).n) : fresh len l = l.drop j := by
  unfold fresh
  have e : l = l.take j ++ l.drop j := (List.take_append_drop j l).symm
  have h1 : (l.take j).filter (fun e => decide (len < e.n)) = [] := by
    rw [List.filter_eq_nil_iff]
    intro a ha
    obtain ⟨i, hi, rfl⟩ := List.getElem_of_mem ha
    simp only [List.length_take] at hi
    rw [List.getElem_take]
    have := ho i (by omega) (by omega)
    simp; omega
  have h2 : (l.drop j).filter (fun e => decide (len < e.n)) = l.drop j := by
    rw [List.filter_eq_self]
    intro a ha
    obtain ⟨i, hi, rfl⟩ := List.getElem_of_mem ha
    simp only [List.length_drop] at hi
    rcases hn with rfl | ⟨hl, hn⟩
    · omega
    · rw [List.getElem_drop]
      have := (h (by omega)).2
      rw [this _ (by omega)]
      rw [this _ hl] at hn
      simp; omega
  conv => lhs; rw [e, List.filter_append, h1, List.nil_append, h2]
/-- Events of numbers from one on. -/
def evN (n : Int) : Ev := ⟨0, n, ⟨0, 0, 0, 0, 0⟩, n, ⟨0, [], 0, []⟩⟩
def rowE (a : Int) (m : Nat) : List Ev := (List.range m).map fun (i : Nat) => evN (a + i)
theorem rowE_len (a : Int) (m : Nat) : (rowE a m).length = m := by simp [rowE]
theorem rowE_get (a : Int) (m i : Nat) (h : i < (rowE a m).length) : (rowE a m)[i] = evN (a + i) := by simp [rowE]
theorem rowE_gap (len a : Int) (m : Nat) : GapOk len (rowE a m) ↔ m = 0 ∨ a ≤ len + 1 := by
  unfold GapOk
  constructor
  · intro h
    by_cases hm : m = 0
    · exact .inl hm
    · have := (h (by rw [rowE_len]; omega)).1
      rw [rowE_get] at this
      simp [evN] at this
      exact .inr this
  · rintro (h | h) hl
    · rw [rowE_len] at hl; omega
    · refine ⟨by rw [rowE_get]; simp [evN]; exact h, fun j hj => ?_⟩
      rw [rowE_get, rowE_get]
      simp [evN]
theorem rowE_fresh (len a : Int) (m : Nat) (h : a ≤ len + 1) : fresh len (rowE a m) = rowE (len + 1) (m - (len + 1 - a).toNat) := by
  have hg : GapOk len (rowE a m) := (rowE_gap len a m).2 (.inr h)
  obtain ⟨j, hj⟩ : ∃ j, j = min m (len + 1 - a).toNat := ⟨_, rfl⟩
  rw [fresh_drop hg j (by rw [rowE_len]; omega) (fun i hi hij => by rw [rowE_get]; simp [evN]; omega) (by
    by_cases hm : j = m
    · left; rw [rowE_len]; exact hm
    · right; exact ⟨by rw [rowE_len]; omega, by rw [rowE_get]; simp [evN]; omega⟩)]
  apply List.ext_getElem
  · simp [rowE_len]; omega
  · intro i h1 h2
    rw [List.getElem_drop, rowE_get, rowE_get]
    simp only [List.length_drop, rowE_len] at h1
    congr 1
    omega
end Go.Proofs.Ytkcpgdkchglhhaa
/- Slices of events: Same. No condition. -/
namespace Go.Proofs.Ytkcpgdkchglhhaa
open Go.RowKit
set_option linter.unusedSimpArgs false
set_option linter.unusedVariables false
@[reducible] def Evs_ (v : Value) (l : List Ev) : Assn := RowT v 55 l
set_option maxRecDepth 20000 attribute [local irreducible] Ex ExL Fn thn inb rnd fin meet Tab Mix mxEnd Val Sats RdT Rd RowT Row Blk Sub Fac ResV RVal Evs subs subs3 Hid Capd
theorem same_fn (va vb : Value) (l : List Ev) (M : List Assn) (ha : RdT M va l) (hb : RdT M vb l) (hl : l.length ≤ 1000000000) : Fn Try.prog 20 #[va, vb] M fun r L' => r = .bool true ∧ L' = M := by
  refine Fn.of_ex Try.func20 rfl Try.ntmps20 rfl ?_
  (repeat' (first | refine ExL.val rJ rJ rJ rV ?_ | (first | refine Ex.seq ?_ | refine Ex.region ?_ | refine ExL.nil ?_ | refine thn_n ?_ | refine Ex.cond_t rJ ?_ | refine Ex.cond_f rJ ?_ | refine Ex.skip ?_ | refine Ex.block ?_ | refine Ex.exit ?_ | refine Ex.ret ?_ | refine thn_exit ?_ | refine thn_ret ?_ | refine inb_n ?_ | refine inb_hit rJ ?_ | refine inb_miss rJ ?_ | refine inb_ret ?_ | refine rnd_exit ?_ | refine rnd_ret ?_ | refine meet_ret ?_ | refine meet_exit ?_) | (apply exlGuard; first | refine ExL.gskip rJ rJ rJ rJ rJ rJ ?_ | refine ExL.gtake rJ rJ rJ rJ ?_ | refine ExL.gskipU rJ rJ rJ rJ ?_ | (refine ExL.gsplit rJ rJ rJ (fun h => ?_) (fun h => ?_) <;> try (exfalso; omega))) | (first | refine st_new_ rJ rE (fun g => ?_) | refine st_boxA rJ rJ (fun g => ?_) | refine st_box1 rJ rE rN (fun g => ?_) | (apply exlStore; first | refine st_store1_ _ rJ rK rE rN rJ rJ rE rE ?_ | refine st_storeW_ _ rJ rK rJ rC rJ rJ rJ rE ?_ | refine st_storeR _ rJ rK rJ rE rJ rJ rE ?_ | refine st_storeA_ _ rJ rK rJ rC rJ rJ rJ rE rE ?_ | refine st_storeB _ rJ rJ rO rO rK rJ rO ?_ | refine st_storeG _ rJ rK rE rN rJ rO (fun cs hcs => ?_)) | refine st_slice0 rJ rJ rJ rJ (fun g => ?_) | refine st_slice1T rJ rJ rJ rJ (fun g => ?_) | refine st_makeT rJ rJ rJ rJ rE rJ rO rO (fun v o => ?_) | (apply exlCopy; first | refine st_copyW _ rJ rE rK rE rD rJ rE rJ (fun zs hzs => ?_) | refine st_copyS _ rJ rJ rK rE rD rJ rE rJ rO rO (fun zs hzs => ?_)) | refine st_sliceB rJ rJ rJ rJ rJ rJ rJ rL rE rE rJ (fun g => ?_) | refine st_slice1I rJ rJ rJ rJ rJ rJ (fun g => ?_) | refine st_slice1B rJ rJ rJ rJ rJ rJ rO rO (fun g => ?_) | refine st_slice1S rJ rJ rJ rJ rJ rJ (fun g => ?_) | refine st_slice2B rJ rJ rJ rJ rJ rJ rJ rO rO rO rO (fun g => ?_) | (apply exlConv; first | refine st_bytes rJ rJ rJ rJ rJ rO (fun v o => ?_) | refine st_mark _ rJ rJ rK rJ rJ rJ ?_) | refine st_clear _ (0 : UInt8) rJ rK rJ rJ rJ rJ rJ rO ?_ | refine st_clearT _ rJ rK rO rJ rJ rO rE ?_ | (apply exlAppend; first | refine st_app0 rJ rJ rE rD rJ rE rJ rE rJ rJ rJ rO (fun v o => ?_) | refine st_app _ rJ rE rK rE rD rJ rE rJ rE rJ rJ rJ rO (fun v o => ?_) | refine st_shift _ rJ rJ rJ rK rO rJ rJ rJ rO rO rE ?_)) | (refine Ex.cond_d rJ (fun h => ?_) (fun h => ?_) <;> try (exfalso; omega))))
  refine Ex.loopS [5] (fun m vs => ∃ (i : Nat), i ≤ l.length ∧ m = l.length - i ∧ vs = [.int .i64 i]) l.length ⟨0, by omega, by omega, rfl⟩ ?_
  rintro m vs g1 ⟨i, hi, rfl, rfl⟩
  by_cases hlt : i < l.length
  · (repeat' (first | refine ExL.val rJ rJ rJ rV ?_ | (first | refine Ex.seq ?_ | refine Ex.region ?_ | refine ExL.nil ?_ | refine thn_n ?_ | refine Ex.cond_t rJ ?_ | refine Ex.cond_f rJ ?_ | refine Ex.skip ?_ | refine Ex.block ?_ | refine Ex.exit ?_ | refine Ex.ret ?_ | refine thn_exit ?_ | refine thn_ret ?_ | refine inb_n ?_ | refine inb_hit rJ ?_ | refine inb_miss rJ ?_ | refine inb_ret ?_ | refine rnd_exit ?_ | refine rnd_ret ?_ | refine meet_ret ?_ | refine meet_exit ?_) | (apply exlGuard; first | refine ExL.gskip rJ rJ rJ rJ rJ rJ ?_ | refine ExL.gtake rJ rJ rJ rJ ?_ | refine ExL.gskipU rJ rJ rJ rJ ?_ | (refine ExL.gsplit rJ rJ rJ (fun h => ?_) (fun h => ?_) <;> try (exfalso; omega))) | (first | refine st_new_ rJ rE (fun g => ?_) | refine st_boxA rJ rJ (fun g => ?_) | refine st_box1 rJ rE rN (fun g => ?_) | (apply exlStore; first | refine st_store1_ _ rJ rK rE rN rJ rJ rE rE ?_ | refine st_storeW_ _ rJ rK rJ rC rJ rJ rJ rE ?_ | refine st_storeR _ rJ rK rJ rE rJ rJ rE ?_ | refine st_storeA_ _ rJ rK rJ rC rJ rJ rJ rE rE ?_ | refine st_storeB _ rJ rJ rO rO rK rJ rO ?_ | refine st_storeG _ rJ rK rE rN rJ rO (fun cs hcs => ?_)) | refine st_slice0 rJ rJ rJ rJ (fun g => ?_) | refine st_slice1T rJ rJ rJ rJ (fun g => ?_) | refine st_makeT rJ rJ rJ rJ rE rJ rO rO (fun v o => ?_) | (apply exlCopy; first | refine st_copyW _ rJ rE rK rE rD rJ rE rJ (fun zs hzs => ?_) | refine st_copyS _ rJ rJ rK rE rD rJ rE rJ rO rO (fun zs hzs => ?_)) | refine st_sliceB rJ rJ rJ rJ rJ rJ rJ rL rE rE rJ (fun g => ?_) | refine st_slice1I rJ rJ rJ rJ rJ rJ (fun g => ?_) | refine st_slice1B rJ rJ rJ rJ rJ rJ rO rO (fun g => ?_) | refine st_slice1S rJ rJ rJ rJ rJ rJ (fun g => ?_) | refine st_slice2B rJ rJ rJ rJ rJ rJ rJ rO rO rO rO (fun g => ?_) | (apply exlConv; first | refine st_bytes rJ rJ rJ rJ rJ rO (fun v o => ?_) | refine st_mark _ rJ rJ rK rJ rJ rJ ?_) | refine st_clear _ (0 : UInt8) rJ rK rJ rJ rJ rJ rJ rO ?_ | refine st_clearT _ rJ rK rO rJ rJ rO rE ?_ | (apply exlAppend; first | refine st_app0 rJ rJ rE rD rJ rE rJ rE rJ rJ rJ rO (fun v o => ?_) | refine st_app _ rJ rE rK rE rD rJ rE rJ rE rJ rJ rJ rO (fun v o => ?_) | refine st_shift _ rJ rJ rJ rK rO rJ rJ rJ rO rO rE ?_)) | (refine Ex.cond_d rJ (fun h => ?_) (fun h => ?_) <;> try (exfalso; omega))))
    (refine Ex.mixA 9 _ rfl (by kernel_rfl) (Fac.refl _) ?_; (repeat' (first | refine mx_val rJ rJ rJ rV ?_ | refine mx_nil ?_ | (first | refine mx_gskip rJ rJ rJ rJ ?_ | refine mx_gtake rJ rJ rJ ?_ | refine mx_gskipU rJ rJ rJ ?_) | (first | refine mx_slice1T rJ rJ rJ rJ (fun g => ?_) | refine mx_slice1I rJ rJ rJ rJ rJ rJ (fun g => ?_) | refine mx_slice1B rJ rJ rJ rJ rJ rJ rO rO (fun g => ?_) | refine mx_slice1S rJ rJ rJ rJ rJ rJ (fun g => ?_) | refine mx_slice2B rJ rJ rJ rJ rJ rJ rJ rO rO rO rO (fun g => ?_) | refine mx_alloc rJ rE (fun g => ?_) | refine mx_boxA rJ rJ (fun g => ?_) | refine mx_slice0 rJ rJ rJ rJ (fun g => ?_)) | (refine mx_gsplit rJ rJ rJ (fun h => ?_) (fun h => ?_) <;> try (exfalso; omega)) | (refine mx_act rJ rJ rJ ?_; (first | (apply exlCopy; first | refine st_copyW _ rJ rE rK rE rD rJ rE rJ (fun zs hzs => ?_) | refine st_copyS _ rJ rJ rK rE rD rJ rE rJ rO rO (fun zs hzs => ?_)) | (apply exlAppend; first | refine st_app0 rJ rJ rE rD rJ rE rJ rE rJ rJ rJ rO (fun v o => ?_) | refine st_app _ rJ rE rK rE rD rJ rE rJ rE rJ rJ rJ rO (fun v o => ?_) | refine st_shift _ rJ rJ rJ rK rO rJ rJ rJ rO rO rE ?_)); refine ExL.nil ?_; refine mxEnd_n rF ?_))))
    (repeat' (first | refine ExL.val rJ rJ rJ rV ?_ | (first | refine Ex.seq ?_ | refine Ex.region ?_ | refine ExL.nil ?_ | refine thn_n ?_ | refine Ex.cond_t rJ ?_ | refine Ex.cond_f rJ ?_ | refine Ex.skip ?_ | refine Ex.block ?_ | refine Ex.exit ?_ | refine Ex.ret ?_ | refine thn_exit ?_ | refine thn_ret ?_ | refine inb_n ?_ | refine inb_hit rJ ?_ | refine inb_miss rJ ?_ | refine inb_ret ?_ | refine rnd_exit ?_ | refine rnd_ret ?_ | refine meet_ret ?_ | refine meet_exit ?_) | (apply exlGuard; first | refine ExL.gskip rJ rJ rJ rJ rJ rJ ?_ | refine ExL.gtake rJ rJ rJ rJ ?_ | refine ExL.gskipU rJ rJ rJ rJ ?_ | (refine ExL.gsplit rJ rJ rJ (fun h => ?_) (fun h => ?_) <;> try (exfalso; omega))) | (first | refine st_new_ rJ rE (fun g => ?_) | refine st_boxA rJ rJ (fun g => ?_) | refine st_box1 rJ rE rN (fun g => ?_) | (apply exlStore; first | refine st_store1_ _ rJ rK rE rN rJ rJ rE rE ?_ | refine st_storeW_ _ rJ rK rJ rC rJ rJ rJ rE ?_ | refine st_storeR _ rJ rK rJ rE rJ rJ rE ?_ | refine st_storeA_ _ rJ rK rJ rC rJ rJ rJ rE rE ?_ | refine st_storeB _ rJ rJ rO rO rK rJ rO ?_ | refine st_storeG _ rJ rK rE rN rJ rO (fun cs hcs => ?_)) | refine st_slice0 rJ rJ rJ rJ (fun g => ?_) | refine st_slice1T rJ rJ rJ rJ (fun g => ?_) | refine st_makeT rJ rJ rJ rJ rE rJ rO rO (fun v o => ?_) | (apply exlCopy; first | refine st_copyW _ rJ rE rK rE rD rJ rE rJ (fun zs hzs => ?_) | refine st_copyS _ rJ rJ rK rE rD rJ rE rJ rO rO (fun zs hzs => ?_)) | refine st_sliceB rJ rJ rJ rJ rJ rJ rJ rL rE rE rJ (fun g => ?_) | refine st_slice1I rJ rJ rJ rJ rJ rJ (fun g => ?_) | refine st_slice1B rJ rJ rJ rJ rJ rJ rO rO (fun g => ?_) | refine st_slice1S rJ rJ rJ rJ rJ rJ (fun g => ?_) | refine st_slice2B rJ rJ rJ rJ rJ rJ rJ rO rO rO rO (fun g => ?_) | (apply exlConv; first | refine st_bytes rJ rJ rJ rJ rJ rO (fun v o => ?_) | refine st_mark _ rJ rJ rK rJ rJ rJ ?_) | refine st_clear _ (0 : UInt8) rJ rK rJ rJ rJ rJ rJ rO ?_ | refine st_clearT _ rJ rK rO rJ rJ rO rE ?_ | (apply exlAppend; first | refine st_app0 rJ rJ rE rD rJ rE rJ rE rJ rJ rJ rO (fun v o => ?_) | refine st_app _ rJ rE rK rE rD rJ rE rJ rE rJ rJ rJ rO (fun v o => ?_) | refine st_shift _ rJ rJ rJ rK rO rJ rJ rJ rO rO rE ?_)) | (refine Ex.cond_d rJ (fun h => ?_) (fun h => ?_) <;> try (exfalso; omega))))
    exact rnd_n ⟨l.length - (i + 1), _, by omega, Sub.refl _, ⟨i + 1, by omega, by omega, lcons (vint (by omega)) rfl⟩, rfl⟩
  · (repeat' (first | refine ExL.val rJ rJ rJ rV ?_ | (first | refine Ex.seq ?_ | refine Ex.region ?_ | refine ExL.nil ?_ | refine thn_n ?_ | refine Ex.cond_t rJ ?_ | refine Ex.cond_f rJ ?_ | refine Ex.skip ?_ | refine Ex.block ?_ | refine Ex.exit ?_ | refine Ex.ret ?_ | refine thn_exit ?_ | refine thn_ret ?_ | refine inb_n ?_ | refine inb_hit rJ ?_ | refine inb_miss rJ ?_ | refine inb_ret ?_ | refine rnd_exit ?_ | refine rnd_ret ?_ | refine meet_ret ?_ | refine meet_exit ?_) | (apply exlGuard; first | refine ExL.gskip rJ rJ rJ rJ rJ rJ ?_ | refine ExL.gtake rJ rJ rJ rJ ?_ | refine ExL.gskipU rJ rJ rJ rJ ?_ | (refine ExL.gsplit rJ rJ rJ (fun h => ?_) (fun h => ?_) <;> try (exfalso; omega))) | (first | refine st_new_ rJ rE (fun g => ?_) | refine st_boxA rJ rJ (fun g => ?_) | refine st_box1 rJ rE rN (fun g => ?_) | (apply exlStore; first | refine st_store1_ _ rJ rK rE rN rJ rJ rE rE ?_ | refine st_storeW_ _ rJ rK rJ rC rJ rJ rJ rE ?_ | refine st_storeR _ rJ rK rJ rE rJ rJ rE ?_ | refine st_storeA_ _ rJ rK rJ rC rJ rJ rJ rE rE ?_ | refine st_storeB _ rJ rJ rO rO rK rJ rO ?_ | refine st_storeG _ rJ rK rE rN rJ rO (fun cs hcs => ?_)) | refine st_slice0 rJ rJ rJ rJ (fun g => ?_) | refine st_slice1T rJ rJ rJ rJ (fun g => ?_) | refine st_makeT rJ rJ rJ rJ rE rJ rO rO (fun v o => ?_) | (apply exlCopy; first | refine st_copyW _ rJ rE rK rE rD rJ rE rJ (fun zs hzs => ?_) | refine st_copyS _ rJ rJ rK rE rD rJ rE rJ rO rO (fun zs hzs => ?_)) | refine st_sliceB rJ rJ rJ rJ rJ rJ rJ rL rE rE rJ (fun g => ?_) | refine st_slice1I rJ rJ rJ rJ rJ rJ (fun g => ?_) | refine st_slice1B rJ rJ rJ rJ rJ rJ rO rO (fun g => ?_) | refine st_slice1S rJ rJ rJ rJ rJ rJ (fun g => ?_) | refine st_slice2B rJ rJ rJ rJ rJ rJ rJ rO rO rO rO (fun g => ?_) | (apply exlConv; first | refine st_bytes rJ rJ rJ rJ rJ rO (fun v o => ?_) | refine st_mark _ rJ rJ rK rJ rJ rJ ?_) | refine st_clear _ (0 : UInt8) rJ rK rJ rJ rJ rJ rJ rO ?_ | refine st_clearT _ rJ rK rO rJ rJ rO rE ?_ | (apply exlAppend; first | refine st_app0 rJ rJ rE rD rJ rE rJ rE rJ rJ rJ rO (fun v o => ?_) | refine st_app _ rJ rE rK rE rD rJ rE rJ rE rJ rJ rJ rO (fun v o => ?_) | refine st_shift _ rJ rJ rJ rK rO rJ rJ rJ rO rO rE ?_)) | (refine Ex.cond_d rJ (fun h => ?_) (fun h => ?_) <;> try (exfalso; omega))))
    (first | refine fin_ret rS ?_ | refine fin_norm rS ?_)
    exact ⟨_, rB, rfl, rfl⟩
end Go.Proofs.Ytkcpgdkchglhhaa
