/- Several texts, one behind the other; each says in its head what it proves. No condition. -/
import Derived.Test.YtmjpdibjdgjhgaaZgpffcbab
import Derived.Test.YtmjpdibjdgjhgaaZmjmbojbo
import Derived.Test.YtmjpdibjdgjhgaaZelpbgfkl
import Derived.Test.YtmjpdibjdgjhgaaChecked
/- The things of this program, as Lean's. No condition. -/
namespace Go.Proofs.Ytmjpdibjdgjhgaa
open Go.RowKit
set_option linter.unusedSimpArgs false
set_option linter.unusedVariables false
/-- An edit. -/
structure Ed where
  kind : Int
  key : List UInt8
  label : Int
  value : List UInt8
deriving DecidableEq
def Ed.cells (e : Ed) : List Value := [.int .i64 e.kind, .string (S e.key), .int .i64 e.label, .string (S e.value)]
def Ed.val (e : Ed) : Value := .agg e.cells.toArray
instance : Rep Ed := ⟨4, Ed.cells, by decide, fun _ => rfl, fun _ => rfl⟩
def sumB (l : List UInt8) : Int := (l.map fun b => (b.toNat : Int)).sum
theorem sumB_bd (l : List UInt8) : 0 ≤ sumB l ∧ sumB l ≤ 255 * l.length := by
  induction l with
  | nil => simp [sumB]
  | cons a l ih =>
    have := a.toNat_lt
    simp [sumB] at ih ⊢; omega
theorem sumB_succ (l : List UInt8) (k : Nat) (h : k < l.length) : sumB (l.take (k + 1)) = sumB (l.take k) + (l[k].toNat : Int) := by
  rw [List.take_succ_eq_append_getElem h]
  simp only [sumB, List.map_append, List.sum_append]
  simp
def fitKey (j : Int) : List UInt8 := if j = 0 then [97, 110, 110] else if j = 1 then [98, 111, 98] else [99, 121]
def fitValue (j : Int) : List UInt8 := if j = 0 then [49] else if j = 1 then [116, 119, 111] else if j = 2 then [0, 255] else [116, 119, 101, 108, 118, 101, 32, 98, 121, 116, 101, 115]
/-- An edit that may be, of anything. -/
def Ed.fit (e : Ed) : Ed :=
  ⟨1 + (e.kind.tmod 5 + 5) % 5, fitKey (sumB e.key % 3), if 2 < 1 + (e.kind.tmod 5 + 5) % 5 then e.label % 2 else 0, if 2 < 1 + (e.kind.tmod 5 + 5) % 5 then fitValue (sumB e.value % 4) else []⟩
theorem tmod5 (n : Int) : -5 < n.tmod 5 ∧ n.tmod 5 < 5 := ⟨Int.lt_tmod_of_pos n (by decide), Int.tmod_lt_of_pos n (by decide)⟩
end Go.Proofs.Ytmjpdibjdgjhgaa
/- Clocks as five numbers. No condition. -/
namespace Go.Proofs.Ytmjpdibjdgjhgaa
open Go.RowKit
set_option linter.unusedSimpArgs false
set_option linter.unusedVariables false
structure Clk where
  a : Int
  b : Int
  c : Int
  d : Int
  e : Int
  deriving DecidableEq
def Clk.get (k : Clk) (i : Nat) : Int := match i with | 0 => k.a | 1 => k.b | 2 => k.c | 3 => k.d | 4 => k.e | _ => 0
@[reducible] def Clk.val (k : Clk) : Value := .agg #[.int .i64 k.a, .int .i64 k.b, .int .i64 k.c, .int .i64 k.d, .int .i64 k.e]
def Clk.join (x y : Clk) : Clk := ⟨max x.a y.a, max x.b y.b, max x.c y.c, max x.d y.d, max x.e y.e⟩
def Clk.le (x y : Clk) : Bool := x.a ≤ y.a && x.b ≤ y.b && x.c ≤ y.c && x.d ≤ y.d && x.e ≤ y.e
def Clk.set (k : Clk) (i : Nat) (v : Int) : Clk := match i with | 0 => { k with a := v } | 1 => { k with b := v } | 2 => { k with c := v } | 3 => { k with d := v } | 4 => { k with e := v } | _ => k
def Clk.zero : Clk := ⟨0, 0, 0, 0, 0⟩
def Clk.next (k : Clk) (r : Int) : Clk × Int := if r < 0 ∨ 5 ≤ r then (Clk.zero, 1) else if 1048576 ≤ k.get r.toNat then (Clk.zero, 25) else (k.set r.toNat (k.get r.toNat + 1), 0)
def Clk.has (k : Clk) (r n : Int) : Bool := 0 ≤ r && r < 5 && 1 ≤ n && n ≤ k.get r.toNat
end Go.Proofs.Ytmjpdibjdgjhgaa
/- Events. No condition. -/
namespace Go.Proofs.Ytmjpdibjdgjhgaa
open Go.RowKit
set_option linter.unusedSimpArgs false
set_option linter.unusedVariables false
structure Ev where
  r : Int
  n : Int
  c : Clk
  h : Int
  ed : Ed
deriving DecidableEq
instance : Rep Clk := ⟨5, fun k => [.int .i64 k.a, .int .i64 k.b, .int .i64 k.c, .int .i64 k.d, .int .i64 k.e], by decide, fun _ => rfl, fun _ => rfl⟩
instance : Rep Ev := ⟨12, fun e => [.int .i64 e.r, .int .i64 e.n, .int .i64 e.c.a, .int .i64 e.c.b, .int .i64 e.c.c, .int .i64 e.c.d, .int .i64 e.c.e, .int .i64 e.h, .int .i64 e.ed.kind, .string (S e.ed.key), .int .i64 e.ed.label, .string (S e.ed.value)], by decide, fun _ => rfl, fun _ => rfl⟩
def Ev.zero : Ev := ⟨0, 0, ⟨0, 0, 0, 0, 0⟩, 0, ⟨0, [], 0, []⟩⟩
instance : Inhabited Ev := ⟨Ev.zero⟩
instance : EqT Try.prog 32 Ev := ⟨6, [.i .i64, .i .i64, .i .i64, .i .i64, .i .i64, .i .i64, .i .i64, .i .i64, .i .i64, .s, .i .i64, .s], by kernel_rfl, by kernel_rfl, by kernel_rfl, by kernel_rfl, fun _ => rfl, fun a b h => by
  obtain ⟨a1, a2, ⟨a3, a4, a5, a6, a7⟩, a8, ⟨a9, a10, a11, a12⟩⟩ := a
  obtain ⟨b1, b2, ⟨b3, b4, b5, b6, b7⟩, b8, ⟨b9, b10, b11, b12⟩⟩ := b
  simp only [Rep.cells, List.cons.injEq, Value.int.injEq, Value.string.injEq, S_inj, true_and, and_true] at h
  simp [h]⟩
instance : ZRep Try.prog 32 Ev := ⟨Ev.zero, by kernel_rfl, by kernel_rfl⟩
end Go.Proofs.Ytmjpdibjdgjhgaa
/- Slices of events: Same. No condition. -/
namespace Go.Proofs.Ytmjpdibjdgjhgaa
open Go.RowKit
set_option linter.unusedSimpArgs false
set_option linter.unusedVariables false
@[reducible] def Evs_ (v : Value) (l : List Ev) : Assn := RowT v 32 l
set_option maxRecDepth 20000 attribute [local irreducible] Ex ExL Fn thn inb rnd fin meet Tab Mix mxEnd Val Sats RdT Rd RowT Row Blk Sub Fac ResV RVal Evs subs subs3 Hid Capd
theorem same_fn (va vb : Value) (l : List Ev) (M : List Assn) (ha : RdT M va l) (hb : RdT M vb l) (hl : l.length ≤ 1000000000) : Fn Try.prog 17 #[va, vb] M fun r L' => r = .bool true ∧ L' = M := by
  refine Fn.of_ex Try.func17 rfl Try.ntmps17 rfl ?_
  (repeat' (first | refine ExL.val rJ rJ rJ rV ?_ | (first | refine Ex.seq ?_ | refine Ex.region ?_ | refine ExL.nil ?_ | refine thn_n ?_ | refine Ex.cond_t rJ ?_ | refine Ex.cond_f rJ ?_ | refine Ex.skip ?_ | refine Ex.block ?_ | refine Ex.exit ?_ | refine Ex.ret ?_ | refine thn_exit ?_ | refine thn_ret ?_ | refine inb_n ?_ | refine inb_hit rJ ?_ | refine inb_miss rJ ?_ | refine inb_ret ?_ | refine rnd_exit ?_ | refine rnd_ret ?_ | refine meet_ret ?_ | refine meet_exit ?_) | (apply exlGuard; first | refine ExL.gskip rJ rJ rJ rJ rJ rJ ?_ | refine ExL.gtake rJ rJ rJ rJ ?_ | refine ExL.gskipU rJ rJ rJ rJ ?_ | (refine ExL.gsplit rJ rJ rJ (fun h => ?_) (fun h => ?_) <;> try (exfalso; omega))) | (first | refine st_new_ rJ rE (fun g => ?_) | refine st_boxA rJ rJ (fun g => ?_) | refine st_box1 rJ rE rN (fun g => ?_) | (apply exlStore; first | refine st_store1_ _ rJ rK rE rN rJ rJ rE rE ?_ | refine st_storeW_ _ rJ rK rJ rC rJ rJ rJ rE ?_ | refine st_storeR _ rJ rK rJ rE rJ rJ rE ?_ | refine st_storeA_ _ rJ rK rJ rC rJ rJ rJ rE rE ?_ | refine st_storeB _ rJ rJ rO rO rK rJ rO ?_ | refine st_storeG _ rJ rK rE rN rJ rO (fun cs hcs => ?_)) | refine st_slice0 rJ rJ rJ rJ (fun g => ?_) | refine st_slice1T rJ rJ rJ rJ (fun g => ?_) | refine st_makeT rJ rJ rJ rJ rE rJ rO rO (fun v o => ?_) | (apply exlCopy; first | refine st_copyW _ rJ rE rK rE rD rJ rE rJ (fun zs hzs => ?_) | refine st_copyS _ rJ rJ rK rE rD rJ rE rJ rO rO (fun zs hzs => ?_)) | refine st_sliceB rJ rJ rJ rJ rJ rJ rJ rL rE rE rJ (fun g => ?_) | refine st_slice1I rJ rJ rJ rJ rJ rJ (fun g => ?_) | refine st_slice1B rJ rJ rJ rJ rJ rJ rO rO (fun g => ?_) | refine st_slice1S rJ rJ rJ rJ rJ rJ (fun g => ?_) | refine st_slice2B rJ rJ rJ rJ rJ rJ rJ rO rO rO rO (fun g => ?_) | (apply exlConv; first | refine st_bytes rJ rJ rJ rJ rJ rO (fun v o => ?_) | refine st_mark _ rJ rJ rK rJ rJ rJ ?_) | refine st_clear _ (0 : UInt8) rJ rK rJ rJ rJ rJ rJ rO ?_ | refine st_clearT _ rJ rK rO rJ rJ rO rE ?_ | (apply exlAppend; first | refine st_app0 rJ rJ rE rD rJ rE rJ rE rJ rJ rJ rO (fun v o => ?_) | refine st_app _ rJ rE rK rE rD rJ rE rJ rE rJ rJ rJ rO (fun v o => ?_) | refine st_shift _ rJ rJ rJ rK rO rJ rJ rJ rO rO rE ?_)) | (refine Ex.cond_d rJ (fun h => ?_) (fun h => ?_) <;> try (exfalso; omega))))
  refine Ex.loopS [5] (fun m vs => ∃ (i : Nat), i ≤ l.length ∧ m = l.length - i ∧ vs = [.int .i64 i]) l.length ⟨0, by omega, by omega, rfl⟩ ?_
  rintro m vs g1 ⟨i, hi, rfl, rfl⟩
  by_cases hlt : i < l.length
  · (repeat' (first | refine ExL.val rJ rJ rJ rV ?_ | (first | refine Ex.seq ?_ | refine Ex.region ?_ | refine ExL.nil ?_ | refine thn_n ?_ | refine Ex.cond_t rJ ?_ | refine Ex.cond_f rJ ?_ | refine Ex.skip ?_ | refine Ex.block ?_ | refine Ex.exit ?_ | refine Ex.ret ?_ | refine thn_exit ?_ | refine thn_ret ?_ | refine inb_n ?_ | refine inb_hit rJ ?_ | refine inb_miss rJ ?_ | refine inb_ret ?_ | refine rnd_exit ?_ | refine rnd_ret ?_ | refine meet_ret ?_ | refine meet_exit ?_) | (apply exlGuard; first | refine ExL.gskip rJ rJ rJ rJ rJ rJ ?_ | refine ExL.gtake rJ rJ rJ rJ ?_ | refine ExL.gskipU rJ rJ rJ rJ ?_ | (refine ExL.gsplit rJ rJ rJ (fun h => ?_) (fun h => ?_) <;> try (exfalso; omega))) | (first | refine st_new_ rJ rE (fun g => ?_) | refine st_boxA rJ rJ (fun g => ?_) | refine st_box1 rJ rE rN (fun g => ?_) | (apply exlStore; first | refine st_store1_ _ rJ rK rE rN rJ rJ rE rE ?_ | refine st_storeW_ _ rJ rK rJ rC rJ rJ rJ rE ?_ | refine st_storeR _ rJ rK rJ rE rJ rJ rE ?_ | refine st_storeA_ _ rJ rK rJ rC rJ rJ rJ rE rE ?_ | refine st_storeB _ rJ rJ rO rO rK rJ rO ?_ | refine st_storeG _ rJ rK rE rN rJ rO (fun cs hcs => ?_)) | refine st_slice0 rJ rJ rJ rJ (fun g => ?_) | refine st_slice1T rJ rJ rJ rJ (fun g => ?_) | refine st_makeT rJ rJ rJ rJ rE rJ rO rO (fun v o => ?_) | (apply exlCopy; first | refine st_copyW _ rJ rE rK rE rD rJ rE rJ (fun zs hzs => ?_) | refine st_copyS _ rJ rJ rK rE rD rJ rE rJ rO rO (fun zs hzs => ?_)) | refine st_sliceB rJ rJ rJ rJ rJ rJ rJ rL rE rE rJ (fun g => ?_) | refine st_slice1I rJ rJ rJ rJ rJ rJ (fun g => ?_) | refine st_slice1B rJ rJ rJ rJ rJ rJ rO rO (fun g => ?_) | refine st_slice1S rJ rJ rJ rJ rJ rJ (fun g => ?_) | refine st_slice2B rJ rJ rJ rJ rJ rJ rJ rO rO rO rO (fun g => ?_) | (apply exlConv; first | refine st_bytes rJ rJ rJ rJ rJ rO (fun v o => ?_) | refine st_mark _ rJ rJ rK rJ rJ rJ ?_) | refine st_clear _ (0 : UInt8) rJ rK rJ rJ rJ rJ rJ rO ?_ | refine st_clearT _ rJ rK rO rJ rJ rO rE ?_ | (apply exlAppend; first | refine st_app0 rJ rJ rE rD rJ rE rJ rE rJ rJ rJ rO (fun v o => ?_) | refine st_app _ rJ rE rK rE rD rJ rE rJ rE rJ rJ rJ rO (fun v o => ?_) | refine st_shift _ rJ rJ rJ rK rO rJ rJ rJ rO rO rE ?_)) | (refine Ex.cond_d rJ (fun h => ?_) (fun h => ?_) <;> try (exfalso; omega))))
    (refine Ex.mixA 9 _ rfl (by kernel_rfl) (Fac.refl _) ?_; (repeat' (first | refine mx_val rJ rJ rJ rV ?_ | refine mx_nil ?_ | (first | refine mx_gskip rJ rJ rJ rJ ?_ | refine mx_gtake rJ rJ rJ ?_ | refine mx_gskipU rJ rJ rJ ?_) | (first | refine mx_slice1T rJ rJ rJ rJ (fun g => ?_) | refine mx_slice1I rJ rJ rJ rJ rJ rJ (fun g => ?_) | refine mx_slice1B rJ rJ rJ rJ rJ rJ rO rO (fun g => ?_) | refine mx_slice1S rJ rJ rJ rJ rJ rJ (fun g => ?_) | refine mx_slice2B rJ rJ rJ rJ rJ rJ rJ rO rO rO rO (fun g => ?_) | refine mx_alloc rJ rE (fun g => ?_) | refine mx_boxA rJ rJ (fun g => ?_) | refine mx_slice0 rJ rJ rJ rJ (fun g => ?_)) | (refine mx_gsplit rJ rJ rJ (fun h => ?_) (fun h => ?_) <;> try (exfalso; omega)) | (refine mx_act rJ rJ rJ ?_; (first | (apply exlCopy; first | refine st_copyW _ rJ rE rK rE rD rJ rE rJ (fun zs hzs => ?_) | refine st_copyS _ rJ rJ rK rE rD rJ rE rJ rO rO (fun zs hzs => ?_)) | (apply exlAppend; first | refine st_app0 rJ rJ rE rD rJ rE rJ rE rJ rJ rJ rO (fun v o => ?_) | refine st_app _ rJ rE rK rE rD rJ rE rJ rE rJ rJ rJ rO (fun v o => ?_) | refine st_shift _ rJ rJ rJ rK rO rJ rJ rJ rO rO rE ?_)); refine ExL.nil ?_; refine mxEnd_n rF ?_))))
    (repeat' (first | refine ExL.val rJ rJ rJ rV ?_ | (first | refine Ex.seq ?_ | refine Ex.region ?_ | refine ExL.nil ?_ | refine thn_n ?_ | refine Ex.cond_t rJ ?_ | refine Ex.cond_f rJ ?_ | refine Ex.skip ?_ | refine Ex.block ?_ | refine Ex.exit ?_ | refine Ex.ret ?_ | refine thn_exit ?_ | refine thn_ret ?_ | refine inb_n ?_ | refine inb_hit rJ ?_ | refine inb_miss rJ ?_ | refine inb_ret ?_ | refine rnd_exit ?_ | refine rnd_ret ?_ | refine meet_ret ?_ | refine meet_exit ?_) | (apply exlGuard; first | refine ExL.gskip rJ rJ rJ rJ rJ rJ ?_ | refine ExL.gtake rJ rJ rJ rJ ?_ | refine ExL.gskipU rJ rJ rJ rJ ?_ | (refine ExL.gsplit rJ rJ rJ (fun h => ?_) (fun h => ?_) <;> try (exfalso; omega))) | (first | refine st_new_ rJ rE (fun g => ?_) | refine st_boxA rJ rJ (fun g => ?_) | refine st_box1 rJ rE rN (fun g => ?_) | (apply exlStore; first | refine st_store1_ _ rJ rK rE rN rJ rJ rE rE ?_ | refine st_storeW_ _ rJ rK rJ rC rJ rJ rJ rE ?_ | refine st_storeR _ rJ rK rJ rE rJ rJ rE ?_ | refine st_storeA_ _ rJ rK rJ rC rJ rJ rJ rE rE ?_ | refine st_storeB _ rJ rJ rO rO rK rJ rO ?_ | refine st_storeG _ rJ rK rE rN rJ rO (fun cs hcs => ?_)) | refine st_slice0 rJ rJ rJ rJ (fun g => ?_) | refine st_slice1T rJ rJ rJ rJ (fun g => ?_) | refine st_makeT rJ rJ rJ rJ rE rJ rO rO (fun v o => ?_) | (apply exlCopy; first | refine st_copyW _ rJ rE rK rE rD rJ rE rJ (fun zs hzs => ?_) | refine st_copyS _ rJ rJ rK rE rD rJ rE rJ rO rO (fun zs hzs => ?_)) | refine st_sliceB rJ rJ rJ rJ rJ rJ rJ rL rE rE rJ (fun g => ?_) | refine st_slice1I rJ rJ rJ rJ rJ rJ (fun g => ?_) | refine st_slice1B rJ rJ rJ rJ rJ rJ rO rO (fun g => ?_) | refine st_slice1S rJ rJ rJ rJ rJ rJ (fun g => ?_) | refine st_slice2B rJ rJ rJ rJ rJ rJ rJ rO rO rO rO (fun g => ?_) | (apply exlConv; first | refine st_bytes rJ rJ rJ rJ rJ rO (fun v o => ?_) | refine st_mark _ rJ rJ rK rJ rJ rJ ?_) | refine st_clear _ (0 : UInt8) rJ rK rJ rJ rJ rJ rJ rO ?_ | refine st_clearT _ rJ rK rO rJ rJ rO rE ?_ | (apply exlAppend; first | refine st_app0 rJ rJ rE rD rJ rE rJ rE rJ rJ rJ rO (fun v o => ?_) | refine st_app _ rJ rE rK rE rD rJ rE rJ rE rJ rJ rJ rO (fun v o => ?_) | refine st_shift _ rJ rJ rJ rK rO rJ rJ rJ rO rO rE ?_)) | (refine Ex.cond_d rJ (fun h => ?_) (fun h => ?_) <;> try (exfalso; omega))))
    exact rnd_n ⟨l.length - (i + 1), _, by omega, Sub.refl _, ⟨i + 1, by omega, by omega, lcons (vint (by omega)) rfl⟩, rfl⟩
  · (repeat' (first | refine ExL.val rJ rJ rJ rV ?_ | (first | refine Ex.seq ?_ | refine Ex.region ?_ | refine ExL.nil ?_ | refine thn_n ?_ | refine Ex.cond_t rJ ?_ | refine Ex.cond_f rJ ?_ | refine Ex.skip ?_ | refine Ex.block ?_ | refine Ex.exit ?_ | refine Ex.ret ?_ | refine thn_exit ?_ | refine thn_ret ?_ | refine inb_n ?_ | refine inb_hit rJ ?_ | refine inb_miss rJ ?_ | refine inb_ret ?_ | refine rnd_exit ?_ | refine rnd_ret ?_ | refine meet_ret ?_ | refine meet_exit ?_) | (apply exlGuard; first | refine ExL.gskip rJ rJ rJ rJ rJ rJ ?_ | refine ExL.gtake rJ rJ rJ rJ ?_ | refine ExL.gskipU rJ rJ rJ rJ ?_ | (refine ExL.gsplit rJ rJ rJ (fun h => ?_) (fun h => ?_) <;> try (exfalso; omega))) | (first | refine st_new_ rJ rE (fun g => ?_) | refine st_boxA rJ rJ (fun g => ?_) | refine st_box1 rJ rE rN (fun g => ?_) | (apply exlStore; first | refine st_store1_ _ rJ rK rE rN rJ rJ rE rE ?_ | refine st_storeW_ _ rJ rK rJ rC rJ rJ rJ rE ?_ | refine st_storeR _ rJ rK rJ rE rJ rJ rE ?_ | refine st_storeA_ _ rJ rK rJ rC rJ rJ rJ rE rE ?_ | refine st_storeB _ rJ rJ rO rO rK rJ rO ?_ | refine st_storeG _ rJ rK rE rN rJ rO (fun cs hcs => ?_)) | refine st_slice0 rJ rJ rJ rJ (fun g => ?_) | refine st_slice1T rJ rJ rJ rJ (fun g => ?_) | refine st_makeT rJ rJ rJ rJ rE rJ rO rO (fun v o => ?_) | (apply exlCopy; first | refine st_copyW _ rJ rE rK rE rD rJ rE rJ (fun zs hzs => ?_) | refine st_copyS _ rJ rJ rK rE rD rJ rE rJ rO rO (fun zs hzs => ?_)) | refine st_sliceB rJ rJ rJ rJ rJ rJ rJ rL rE rE rJ (fun g => ?_) | refine st_slice1I rJ rJ rJ rJ rJ rJ (fun g => ?_) | refine st_slice1B rJ rJ rJ rJ rJ rJ rO rO (fun g => ?_) | refine st_slice1S rJ rJ rJ rJ rJ rJ (fun g => ?_) | refine st_slice2B rJ rJ rJ rJ rJ rJ rJ rO rO rO rO (fun g => ?_) | (apply exlConv; first | refine st_bytes rJ rJ rJ rJ rJ rO (fun v o => ?_) | refine st_mark _ rJ rJ rK rJ rJ rJ ?_) | refine st_clear _ (0 : UInt8) rJ rK rJ rJ rJ rJ rJ rO ?_ | refine st_clearT _ rJ rK rO rJ rJ rO rE ?_ | (apply exlAppend; first | refine st_app0 rJ rJ rE rD rJ rE rJ rE rJ rJ rJ rO (fun v o => ?_) | refine st_app _ rJ rE rK rE rD rJ rE rJ rE rJ rJ rJ rO (fun v o => ?_) | refine st_shift _ rJ rJ rJ rK rO rJ rJ rJ rO rO rE ?_)) | (refine Ex.cond_d rJ (fun h => ?_) (fun h => ?_) <;> try (exfalso; omega))))
    (first | refine fin_ret rS ?_ | refine fin_norm rS ?_)
    exact ⟨_, rB, rfl, rfl⟩
end Go.Proofs.Ytmjpdibjdgjhgaa
/- Slices of events: Clone, Delete, Same. No condition. -/
namespace Go.Proofs.Ytmjpdibjdgjhgaa
open Go.RowKit
set_option linter.unusedSimpArgs false
set_option linter.unusedVariables false
set_option maxRecDepth 20000 attribute [local irreducible] Ex ExL Fn thn inb rnd fin meet Tab Mix mxEnd Val Sats RdT Rd RowT Row Blk Sub Fac ResV RVal Evs subs subs3 Hid Capd
theorem clone_evs (v0 : Value) (xs : List Ev) (L : List Assn) (hr : RdT L v0 xs) (hb : xs.length ≤ 1000000000) : Fn Try.prog 49 #[v0] L fun r L' => r.oneCell' = true ∧ L' = Evs_ r xs :: L := by
  refine Fn.of_ex Try.func49 rfl Try.ntmps49 rfl ?_
  refine Ex.know hr.ca ?_
  rintro ⟨a, c, rfl, hn⟩
  cases a with
  | none =>
    obtain ⟨rfl, hb0⟩ := hn rfl
    obtain rfl := List.eq_nil_of_length_eq_zero hb0
    (repeat' (first | refine ExL.val rJ rJ rJ rV ?_ | (first | refine Ex.seq ?_ | refine Ex.region ?_ | refine ExL.nil ?_ | refine thn_n ?_ | refine Ex.cond_t rJ ?_ | refine Ex.cond_f rJ ?_ | refine Ex.skip ?_ | refine Ex.block ?_ | refine Ex.exit ?_ | refine Ex.ret ?_ | refine thn_exit ?_ | refine thn_ret ?_ | refine inb_n ?_ | refine inb_hit rJ ?_ | refine inb_miss rJ ?_ | refine inb_ret ?_ | refine rnd_exit ?_ | refine rnd_ret ?_ | refine meet_ret ?_ | refine meet_exit ?_) | (apply exlGuard; first | refine ExL.gskip rJ rJ rJ rJ rJ rJ ?_ | refine ExL.gtake rJ rJ rJ rJ ?_ | refine ExL.gskipU rJ rJ rJ rJ ?_ | (refine ExL.gsplit rJ rJ rJ (fun h => ?_) (fun h => ?_) <;> try (exfalso; omega))) | (first | refine st_new_ rJ rE (fun g => ?_) | refine st_boxA rJ rJ (fun g => ?_) | refine st_box1 rJ rE rN (fun g => ?_) | (apply exlStore; first | refine st_store1_ _ rJ rK rE rN rJ rJ rE rE ?_ | refine st_storeW_ _ rJ rK rJ rC rJ rJ rJ rE ?_ | refine st_storeR _ rJ rK rJ rE rJ rJ rE ?_ | refine st_storeA_ _ rJ rK rJ rC rJ rJ rJ rE rE ?_ | refine st_storeB _ rJ rJ rO rO rK rJ rO ?_ | refine st_storeG _ rJ rK rE rN rJ rO (fun cs hcs => ?_)) | refine st_slice0 rJ rJ rJ rJ (fun g => ?_) | refine st_slice1T rJ rJ rJ rJ (fun g => ?_) | refine st_makeT rJ rJ rJ rJ rE rJ rO rO (fun v o => ?_) | (apply exlCopy; first | refine st_copyW _ rJ rE rK rE rD rJ rE rJ (fun zs hzs => ?_) | refine st_copyS _ rJ rJ rK rE rD rJ rE rJ rO rO (fun zs hzs => ?_)) | refine st_sliceB rJ rJ rJ rJ rJ rJ rJ rL rE rE rJ (fun g => ?_) | refine st_slice1I rJ rJ rJ rJ rJ rJ (fun g => ?_) | refine st_slice1B rJ rJ rJ rJ rJ rJ rO rO (fun g => ?_) | refine st_slice1S rJ rJ rJ rJ rJ rJ (fun g => ?_) | refine st_slice2B rJ rJ rJ rJ rJ rJ rJ rO rO rO rO (fun g => ?_) | (apply exlConv; first | refine st_bytes rJ rJ rJ rJ rJ rO (fun v o => ?_) | refine st_mark _ rJ rJ rK rJ rJ rJ ?_) | refine st_clear _ (0 : UInt8) rJ rK rJ rJ rJ rJ rJ rO ?_ | refine st_clearT _ rJ rK rO rJ rJ rO rE ?_ | (apply exlAppend; first | refine st_app0 rJ rJ rE rD rJ rE rJ rE rJ rJ rJ rO (fun v o => ?_) | refine st_app _ rJ rE rK rE rD rJ rE rJ rE rJ rJ rJ rO (fun v o => ?_) | refine st_shift _ rJ rJ rJ rK rO rJ rJ rJ rO rO rE ?_)) | (refine Ex.cond_d rJ (fun h => ?_) (fun h => ?_) <;> try (exfalso; omega))))
    (first | refine fin_ret rS ?_ | refine fin_norm rS ?_)
    exact ⟨_, Sub.empty none _ _, rfl, rfl⟩
  | some a =>
    (repeat' (first | refine ExL.val rJ rJ rJ rV ?_ | (first | refine Ex.seq ?_ | refine Ex.region ?_ | refine ExL.nil ?_ | refine thn_n ?_ | refine Ex.cond_t rJ ?_ | refine Ex.cond_f rJ ?_ | refine Ex.skip ?_ | refine Ex.block ?_ | refine Ex.exit ?_ | refine Ex.ret ?_ | refine thn_exit ?_ | refine thn_ret ?_ | refine inb_n ?_ | refine inb_hit rJ ?_ | refine inb_miss rJ ?_ | refine inb_ret ?_ | refine rnd_exit ?_ | refine rnd_ret ?_ | refine meet_ret ?_ | refine meet_exit ?_) | (apply exlGuard; first | refine ExL.gskip rJ rJ rJ rJ rJ rJ ?_ | refine ExL.gtake rJ rJ rJ rJ ?_ | refine ExL.gskipU rJ rJ rJ rJ ?_ | (refine ExL.gsplit rJ rJ rJ (fun h => ?_) (fun h => ?_) <;> try (exfalso; omega))) | (first | refine st_new_ rJ rE (fun g => ?_) | refine st_boxA rJ rJ (fun g => ?_) | refine st_box1 rJ rE rN (fun g => ?_) | (apply exlStore; first | refine st_store1_ _ rJ rK rE rN rJ rJ rE rE ?_ | refine st_storeW_ _ rJ rK rJ rC rJ rJ rJ rE ?_ | refine st_storeR _ rJ rK rJ rE rJ rJ rE ?_ | refine st_storeA_ _ rJ rK rJ rC rJ rJ rJ rE rE ?_ | refine st_storeB _ rJ rJ rO rO rK rJ rO ?_ | refine st_storeG _ rJ rK rE rN rJ rO (fun cs hcs => ?_)) | refine st_slice0 rJ rJ rJ rJ (fun g => ?_) | refine st_slice1T rJ rJ rJ rJ (fun g => ?_) | refine st_makeT rJ rJ rJ rJ rE rJ rO rO (fun v o => ?_) | (apply exlCopy; first | refine st_copyW _ rJ rE rK rE rD rJ rE rJ (fun zs hzs => ?_) | refine st_copyS _ rJ rJ rK rE rD rJ rE rJ rO rO (fun zs hzs => ?_)) | refine st_sliceB rJ rJ rJ rJ rJ rJ rJ rL rE rE rJ (fun g => ?_) | refine st_slice1I rJ rJ rJ rJ rJ rJ (fun g => ?_) | refine st_slice1B rJ rJ rJ rJ rJ rJ rO rO (fun g => ?_) | refine st_slice1S rJ rJ rJ rJ rJ rJ (fun g => ?_) | refine st_slice2B rJ rJ rJ rJ rJ rJ rJ rO rO rO rO (fun g => ?_) | (apply exlConv; first | refine st_bytes rJ rJ rJ rJ rJ rO (fun v o => ?_) | refine st_mark _ rJ rJ rK rJ rJ rJ ?_) | refine st_clear _ (0 : UInt8) rJ rK rJ rJ rJ rJ rJ rO ?_ | refine st_clearT _ rJ rK rO rJ rJ rO rE ?_ | (apply exlAppend; first | refine st_app0 rJ rJ rE rD rJ rE rJ rE rJ rJ rJ rO (fun v o => ?_) | refine st_app _ rJ rE rK rE rD rJ rE rJ rE rJ rJ rJ rO (fun v o => ?_) | refine st_shift _ rJ rJ rJ rK rO rJ rJ rJ rO rO rE ?_)) | (refine Ex.cond_d rJ (fun h => ?_) (fun h => ?_) <;> try (exfalso; omega))))
    (first | refine fin_ret rS ?_ | refine fin_norm rS ?_)
    exact ⟨_, rB, by assumption, rfl⟩
end Go.Proofs.Ytmjpdibjdgjhgaa
/- What can be delivered, in plain words. No condition. -/
namespace Go.Proofs.Ytmjpdibjdgjhgaa
open Go.RowKit
set_option linter.unusedSimpArgs false
set_option linter.unusedVariables false
structure Mk where
  r : Int
  n : Int
deriving DecidableEq
instance : Rep Mk := ⟨2, fun m => [.int .i64 m.r, .int .i64 m.n], by decide, fun _ => rfl, fun _ => rfl⟩
def Ev.mk_ (e : Ev) : Mk := ⟨e.r, e.n⟩
def Ev.rdy (c : Clk) (e : Ev) : Prop := 0 ≤ e.r ∧ e.r < 5 ∧ 1 ≤ e.n ∧ e.n - 1 = c.get e.r.toNat ∧ e.c.le c = true
/-- No mark twice. -/
def Dst (l : List Ev) : Prop := l.Pairwise fun a b => a.mk_ ≠ b.mk_
theorem Dst.inj {l : List Ev} (h : Dst l) {i j : Nat} (hi : i < l.length) (hj : j < l.length) (e : (l[i]'hi).mk_ = (l[j]'hj).mk_) : i = j := by
  rcases Nat.lt_trichotomy i j with hlt | heq | hgt
  · exact absurd e (List.pairwise_iff_getElem.1 h i j hi hj hlt)
  · exact heq
  · exact absurd e.symm (List.pairwise_iff_getElem.1 h j i hj hi hgt)
theorem Dst.erase {l : List Ev} (h : Dst l) (i : Nat) : Dst (l.eraseIdx i) := h.sublist (List.eraseIdx_sublist ..)
/-- The one that comes next. -/
def NextI (c : Clk) (l : List Ev) (i : Nat) : Prop := ∃ h : i < l.length, (l[i]'h).rdy c ∧ ∀ j (hj : j < l.length), (l[j]'hj).rdy c → (l[i]'h).r ≤ (l[j]'hj).r
theorem NextI.unique {c : Clk} {l : List Ev} (hd : Dst l) {i j : Nat} (h : NextI c l i) (k : NextI c l j) : i = j := by
  obtain ⟨hi, h1, h2⟩ := h
  obtain ⟨hj, k1, k2⟩ := k
  have e := Int.le_antisymm (h2 j hj k1) (k2 i hi h1)
  refine hd.inj hi hj ?_
  have en : (l[i]'hi).n = (l[j]'hj).n := by
    have a := h1.2.2.2.1
    have b := k1.2.2.2.1
    rw [e] at a
    omega
  simp only [Ev.mk_, e, en]
open Classical in
noncomputable def drainF : Nat → Clk → List Ev → List Ev × List Ev × Clk
  | 0, c, l => ([], l, c)
  | n + 1, c, l => if h : ∃ i, NextI c l i then
      let e := l[Classical.choose h]'(Classical.choose_spec h).1
      let r := drainF n (c.set e.r.toNat e.n) (l.eraseIdx (Classical.choose h))
      (e :: r.1, r.2)
    else ([], l, c)
noncomputable def drain (c : Clk) (l : List Ev) : List Ev × List Ev × Clk := drainF l.length c l
theorem drain_step {c : Clk} {l : List Ev} {i : Nat} (hd : Dst l) (hi : i < l.length) (h : NextI c l i) :
    drain c l = ((l[i]'hi) :: (drain (c.set (l[i]'hi).r.toNat (l[i]'hi).n) (l.eraseIdx i)).1, (drain (c.set (l[i]'hi).r.toNat (l[i]'hi).n) (l.eraseIdx i)).2) := by
  obtain ⟨m, hm⟩ : ∃ m, l.length = m + 1 := ⟨l.length - 1, by omega⟩
  have hex : ∃ i, NextI c l i := ⟨i, h⟩
  have hc : Classical.choose hex = i := NextI.unique hd (Classical.choose_spec hex) h
  have hl : (l.eraseIdx i).length = m := by rw [List.length_eraseIdx, if_pos hi]; omega
  unfold drain
  rw [hm]
  conv => lhs; unfold drainF
  rw [dif_pos hex]
  simp only [hc, hl]
theorem drain_stop {c : Clk} {l : List Ev} (h : ∀ i, ¬ NextI c l i) : drain c l = ([], l, c) := by
  unfold drain
  cases hl : l.length with
  | zero => rfl
  | succ m =>
    unfold drainF
    rw [dif_neg (fun ⟨i, hi⟩ => h i hi)]
theorem exists_next {c : Clk} {l : List Ev} (h : ∃ e ∈ l, e.rdy c) : ∃ i, NextI c l i := by
  have key : ∀ (m : Nat), m ≤ 5 → (∃ j, ∃ hj : j < l.length, (l[j]'hj).rdy c ∧ (l[j]'hj).r < m) → ∃ i, NextI c l i := by
    intro m
    induction m with
    | zero => rintro _ ⟨j, hj, hr, hlt⟩; have := hr.1; omega
    | succ m ih =>
      rintro hm ⟨j, hj, hr, hlt⟩
      by_cases hx : ∃ j, ∃ hj : j < l.length, (l[j]'hj).rdy c ∧ (l[j]'hj).r < m
      · exact ih (by omega) hx
      · refine ⟨j, hj, hr, fun k hk hkr => ?_⟩
        rcases Int.lt_or_le (l[k]'hk).r m with hlt2 | hge
        · exact absurd ⟨k, hk, hkr, hlt2⟩ hx
        · omega
  obtain ⟨e, he, hr⟩ := h
  obtain ⟨j, hj, rfl⟩ := List.getElem_of_mem he
  exact key 5 (Nat.le_refl _) ⟨j, hj, hr, by have := hr.2.1; omega⟩
theorem drain_induct {motive : Clk → List Ev → Prop} (stop : ∀ c l, (∀ i, ¬ NextI c l i) → motive c l)
    (step : ∀ c l i (hi : i < l.length), NextI c l i → motive (c.set (l[i]'hi).r.toNat (l[i]'hi).n) (l.eraseIdx i) → motive c l) : ∀ c l, motive c l := by
  intro c l
  induction hn : l.length generalizing c l with
  | zero => exact stop c l fun i ⟨hi, _⟩ => by omega
  | succ m ih =>
    by_cases h : ∃ i, NextI c l i
    · obtain ⟨i, hi⟩ := h
      obtain ⟨hl, _⟩ := id hi
      exact step c l i hl hi (ih _ _ (by rw [List.length_eraseIdx, if_pos hl]; omega))
    · exact stop c l fun i hi => h ⟨i, hi⟩
theorem drain_sub (c : Clk) (l : List Ev) : Dst l → (drain c l).2.1.Sublist l := by
  refine drain_induct (motive := fun c l => Dst l → (drain c l).2.1.Sublist l) (fun c l h _ => ?_) (fun c l i hi h ih hd => ?_) c l
  · rw [drain_stop h]
    exact List.Sublist.refl _
  · rw [drain_step hd hi h]
    exact (ih (hd.erase i)).trans (List.eraseIdx_sublist ..)
theorem drain_len (c : Clk) (l : List Ev) : Dst l → (drain c l).1.length + (drain c l).2.1.length = l.length := by
  refine drain_induct (motive := fun c l => Dst l → (drain c l).1.length + (drain c l).2.1.length = l.length) (fun c l h _ => ?_) (fun c l i hi h ih hd => ?_) c l
  · rw [drain_stop h]; simp
  · rw [drain_step hd hi h]
    have := ih (hd.erase i)
    rw [List.length_eraseIdx, if_pos hi] at this
    simp only [List.length_cons]
    omega
theorem filter_sub {s l : List Ev} (h : s.Sublist l) (hd : Dst l) : l.filter (fun e => s.any fun x => decide (x.mk_ = e.mk_)) = s := by
  induction h with
  | slnil => rfl
  | cons a hs ih =>
    rename_i s l
    rw [List.filter_cons_of_neg, ih (List.pairwise_cons.1 hd).2]
    intro hc
    obtain ⟨x, hx, he⟩ := List.any_eq_true.1 hc
    exact (List.pairwise_cons.1 hd).1 x (hs.subset hx) (of_decide_eq_true he).symm
  | cons_cons a hs ih =>
    rename_i s l
    rw [List.filter_cons_of_pos (by simp)]
    congr 1
    have h2 := ih (List.pairwise_cons.1 hd).2
    refine Eq.trans (List.filter_congr fun x hx => ?_) h2
    have hne : ¬ a.mk_ = x.mk_ := (List.pairwise_cons.1 hd).1 x hx
    simp [hne]
/-- Those that are not dropped. -/
def freshS (c : Clk) (acc : List Ev) (e : Ev) : List Ev := if (acc.any fun x => decide (x.mk_ = e.mk_)) = true ∨ c.has e.r e.n = true then acc else acc ++ [e]
def freshL (c : Clk) (l : List Ev) : List Ev := l.foldl (freshS c) []
theorem freshL_take (c : Clk) (l : List Ev) (i : Nat) (h : i < l.length) : freshL c (l.take (i + 1)) = freshS c (freshL c (l.take i)) (l[i]'h) := by
  rw [List.take_succ_eq_append_getElem h]
  unfold freshL
  rw [List.foldl_append]
  rfl
theorem freshL_dst (c : Clk) : ∀ (l acc : List Ev), Dst acc → Dst (l.foldl (freshS c) acc)
  | [], acc, h => h
  | e :: l, acc, h => by
    refine freshL_dst c l _ ?_
    unfold freshS
    split
    · exact h
    · rename_i hx
      refine List.pairwise_append.2 ⟨h, by simp, fun a ha b hb => ?_⟩
      simp only [List.mem_singleton] at hb
      subst hb
      intro e2
      exact hx (.inl (List.any_eq_true.2 ⟨a, ha, decide_eq_true e2⟩))
theorem freshL_len (c : Clk) (l : List Ev) : (freshL c l).length ≤ l.length := by
  have key : ∀ (l acc : List Ev), (l.foldl (freshS c) acc).length ≤ acc.length + l.length := by
    intro l
    induction l with
    | nil => intro acc; simp
    | cons e l ih =>
      intro acc
      have := ih (freshS c acc e)
      have h2 : (freshS c acc e).length ≤ acc.length + 1 := by unfold freshS; split <;> simp
      simp only [List.foldl_cons, List.length_cons]
      omega
  simpa [freshL] using key l []
theorem freshL_mem (c : Clk) (l : List Ev) : ∀ e ∈ freshL c l, e ∈ l := by
  have key : ∀ (l acc : List Ev), ∀ e ∈ l.foldl (freshS c) acc, e ∈ acc ∨ e ∈ l := by
    intro l
    induction l with
    | nil => intro acc e he; exact .inl he
    | cons a l ih =>
      intro acc e he
      rcases ih _ e he with h | h
      · unfold freshS at h
        split at h
        · exact .inl h
        · rcases List.mem_append.1 h with h | h
          · exact .inl h
          · right; simp at h; simp [h]
      · exact .inr (List.mem_cons_of_mem _ h)
  intro e he
  rcases key l [] e he with h | h
  · simp at h
  · exact h
/-- Which marks have come. -/
theorem freshL_any (c : Clk) (l : List Ev) (x : Ev) (hx : c.has x.r x.n = false) : ((freshL c l).any fun y => decide (y.mk_ = x.mk_)) = (l.any fun y => decide (y.mk_ = x.mk_)) := by
  have key : ∀ (l acc : List Ev), ((l.foldl (freshS c) acc).any fun y => decide (y.mk_ = x.mk_)) = ((acc.any fun y => decide (y.mk_ = x.mk_)) || (l.any fun y => decide (y.mk_ = x.mk_))) := by
    intro l
    induction l with
    | nil => intro acc; simp
    | cons a l ih =>
      intro acc
      rw [List.foldl_cons, ih]
      unfold freshS
      by_cases ha : a.mk_ = x.mk_
      · have hn : c.has a.r a.n = false := by
          have h1 : a.r = x.r := congrArg Mk.r ha
          have h2 : a.n = x.n := congrArg Mk.n ha
          rw [h1, h2]; exact hx
        simp only [ha, hn, List.any_cons, decide_true, Bool.true_or, Bool.or_true, Bool.false_eq_true, or_false]
        split
        · rename_i h; simp [h]
        · simp [ha]
      · simp only [List.any_cons, ha, decide_false, Bool.false_or]
        split
        · rfl
        · simp [ha]
  simpa [freshL] using key l []
theorem freshL_has (c : Clk) (l : List Ev) : ∀ e ∈ freshL c l, c.has e.r e.n = false := by
  have key : ∀ (l acc : List Ev), (∀ e ∈ acc, c.has e.r e.n = false) → ∀ e ∈ l.foldl (freshS c) acc, c.has e.r e.n = false := by
    intro l
    induction l with
    | nil => intro acc h; exact h
    | cons a l ih =>
      intro acc h
      refine ih _ ?_
      unfold freshS
      split
      · exact h
      · rename_i hx
        intro e he
        rcases List.mem_append.1 he with he | he
        · exact h e he
        · simp at he
          subst he
          cases hh : c.has e.r e.n
          · rfl
          · exact absurd (.inr hh) hx
  exact key l [] (by simp)
/-- A list as a map by marks. -/
def mapL (l : List Ev) : List (Mk × Ev) := l.map fun e => (e.mk_, e)
theorem mpos_spec (k : Mk) : ∀ (l : List Ev) (s : Nat), (mpos k (mapL l) s = none ∧ ∀ e ∈ l, e.mk_ ≠ k) ∨ ∃ i, ∃ h : i < l.length, (l[i]'h).mk_ = k ∧ mpos k (mapL l) s = some (s + i, l[i]'h)
  | [], s => .inl ⟨rfl, by simp⟩
  | e :: l, s => by
    by_cases hk : k = e.mk_
    · exact .inr ⟨0, by simp, hk.symm, if_pos hk⟩
    · rcases mpos_spec k l (s + 1) with ⟨h1, h2⟩ | ⟨i, hi, h1, h2⟩
      · refine .inl ⟨(if_neg hk).trans h1, fun x hx => ?_⟩
        rcases List.mem_cons.1 hx with rfl | hx
        · exact fun h => hk h.symm
        · exact h2 x hx
      · refine .inr ⟨i + 1, by simp; omega, by simpa using h1, (if_neg hk).trans ?_⟩
        show mpos k (mapL l) (s + 1) = _
        rw [h2]
        simp; omega
theorem mpos_at {l : List Ev} (hd : Dst l) {i : Nat} (hi : i < l.length) : mpos (l[i]'hi).mk_ (mapL l) 0 = some (i, l[i]'hi) := by
  rcases mpos_spec (l[i]'hi).mk_ l 0 with ⟨_, h2⟩ | ⟨j, hj, h1, h2⟩
  · exact absurd rfl (h2 _ (List.getElem_mem hi))
  · have := hd.inj hj hi h1
    subst this
    rw [h2, Nat.zero_add]
theorem mapL_snoc (l : List Ev) (e : Ev) : mapL (l ++ [e]) = mapL l ++ [(e.mk_, e)] := by simp [mapL]
theorem mapL_erase (l : List Ev) (i : Nat) : mapL (l.eraseIdx i) = (mapL l).eraseIdx i := eraseIdx_map _ l i
theorem any_iff_mpos (k : Ev) (l : List Ev) : (l.any fun x => decide (x.mk_ = k.mk_)) = (mpos k.mk_ (mapL l) 0).isSome := by
  rcases mpos_spec k.mk_ l 0 with ⟨h1, h2⟩ | ⟨i, hi, h1, h2⟩
  · rw [h1]
    simp only [Option.isSome_none]
    rw [List.any_eq_false]
    intro x hx
    simpa using h2 x hx
  · rw [h2]
    simp only [Option.isSome_some]
    exact List.any_eq_true.2 ⟨_, List.getElem_mem hi, decide_eq_true h1⟩
end Go.Proofs.Ytmjpdibjdgjhgaa
/- Marks as the keys of maps. No condition. -/
namespace Go.Proofs.Ytmjpdibjdgjhgaa
open Go.RowKit
set_option linter.unusedSimpArgs false
set_option linter.unusedVariables false
set_option maxRecDepth 20000
instance : KeyT Try.prog 69 Mk where
  depth := 3
  ls := [.i .i64, .i .i64]
  small := rfl
  leaves := by kernel_rfl
  agg := by kernel_rfl
  guard := by kernel_rfl
  ok := fun _ => rfl
  inj := fun a b h => by
    obtain ⟨a1, a2⟩ := a
    obtain ⟨b1, b2⟩ := b
    simp only [Rep.cells, List.cons.injEq, Value.int.injEq, true_and, and_true] at h
    simp [h]
  check := fun w em a => check_2int (e := 3) Try.underlying69 ⟨rfl, rfl, by decide⟩ ⟨rfl, rfl, by decide⟩ (by kernel_rfl) w em a.r a.n
end Go.Proofs.Ytmjpdibjdgjhgaa
