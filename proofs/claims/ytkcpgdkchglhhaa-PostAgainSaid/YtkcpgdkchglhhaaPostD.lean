/- The hub's post, in plain words. No condition. -/
import Derived.Test.YtkcpgdkchglhhaaShelf2
import Derived.Test.YtkcpgdkchglhhaaStar
namespace Go.Proofs.Ytkcpgdkchglhhaa
open Go.RowKit
set_option linter.unusedSimpArgs false
set_option linter.unusedVariables false
/-- A shelf: all that was put, how many of it were cut. -/
structure Sf where
  all : List Ev
  cut : Nat
noncomputable def Sf.put (most : Int) (s : Sf) (l : List Ev) : Int × Sf := ((putR most s.all.length (s.all.length - s.cut : Nat) l).1, ⟨s.all ++ (putR most s.all.length (s.all.length - s.cut : Nat) l).2, s.cut⟩)
def Sf.to (s : Sf) (n : Int) : Sf := ⟨s.all, (max (s.cut : Int) (min n s.all.length)).toNat⟩
def Sf.Ok (s : Sf) : Prop := s.cut ≤ s.all.length
theorem Sf.to_ok {s : Sf} (h : s.Ok) (n : Int) : (s.to n).Ok := by
  unfold Sf.Ok Sf.to at *
  simp only
  omega
def leastR (told : List Clk) (s : Nat) : Int := (told.map (·.get s)).foldl min ((told.headD Clk.zero).get s)
structure PSt where
  told : List Clk
  sf : List Sf
def Sf.none : Sf := ⟨[], 0⟩
def PSt.cutAt (st : PSt) (s : Nat) : PSt := ⟨st.told, st.sf.set s ((st.sf.getD s Sf.none).to (leastR st.told s))⟩
def PSt.cutN (st : PSt) : Nat → PSt
  | 0 => st
  | k + 1 => (st.cutN k).cutAt k
theorem PSt.cutN_told (st : PSt) : ∀ k, (st.cutN k).told = st.told
  | 0 => rfl
  | k + 1 => PSt.cutN_told st k
theorem PSt.cutN_len (st : PSt) : ∀ k, (st.cutN k).sf.length = st.sf.length
  | 0 => rfl
  | k + 1 => by
    show ((st.cutN k).sf.set _ _).length = _
    rw [List.length_set, PSt.cutN_len st k]
/-- Such a number names one of them. -/
def PSt.has (st : PSt) (r : Int) : Prop := 0 ≤ r ∧ r < st.sf.length
instance (st : PSt) (r : Int) : Decidable (st.has r) := by unfold PSt.has; exact inferInstance
open Classical in
noncomputable def PSt.push (most : Int) (st : PSt) (r : Int) (l : List Ev) : Int × Int × PSt :=
  if ¬ st.has r ∨ ∃ e ∈ l, e.r ≠ r then (0, 23, st) else
  let p := (st.sf.getD r.toNat Sf.none).put most l
  if p.1 ≠ 0 then (0, p.1, st) else (p.2.all.length, 0, (⟨st.told, st.sf.set r.toNat p.2⟩ : PSt).cutAt r.toNat)
def PSt.ack (st : PSt) (r : Int) (c : Clk) : Int × PSt :=
  if ¬ st.has r then (23, st) else (0, (⟨st.told.set r.toNat ((st.told.getD r.toNat Clk.zero).join c), st.sf⟩ : PSt).cutN st.sf.length)
/-- What of the first k shelves r gets, who has c. -/
def PSt.getN (st : PSt) (r : Int) (c : Clk) : Nat → List Ev
  | 0 => []
  | k + 1 => if (k : Int) ≠ r then st.getN r c k ++ above (c.get k) ((st.sf.getD k Sf.none).all.drop (st.sf.getD k Sf.none).cut) else st.getN r c k
def PSt.fetch (st : PSt) (r : Int) (c : Clk) : List Ev × Int := if ¬ st.has r then ([], 23) else (st.getN r c st.sf.length, 0)
/-- How the hub stands. -/
structure Hs where
  base : Clk
  len : Clk
  a0 : Clk
  a1 : Clk
  a2 : Clk
  a3 : Clk
  a4 : Clk
deriving DecidableEq
def clkOf (f : Nat → Int) : Clk := ⟨f 0, f 1, f 2, f 3, f 4⟩
theorem clkOf_get (f : Nat → Int) (i : Nat) (h : i < 5) : (clkOf f).get i = f i := by
  match i, h with
  | 0, _ => rfl
  | 1, _ => rfl
  | 2, _ => rfl
  | 3, _ => rfl
  | 4, _ => rfl
def PSt.baseF (st : PSt) (i : Nat) : Int := if i < st.sf.length then ((st.sf.getD i Sf.none).cut : Int) else 0
def PSt.lenF (st : PSt) (i : Nat) : Int := if i < st.sf.length then ((st.sf.getD i Sf.none).all.length : Int) else 0
def PSt.site (st : PSt) : Hs := ⟨clkOf st.baseF, clkOf st.lenF, st.told.getD 0 Clk.zero, st.told.getD 1 Clk.zero, st.told.getD 2 Clk.zero, st.told.getD 3 Clk.zero, st.told.getD 4 Clk.zero⟩
instance : Rep Hs := ⟨36, fun h => .bool true :: (Rep.cells h.base ++ Rep.cells h.len ++ Rep.cells h.a0 ++ Rep.cells h.a1 ++ Rep.cells h.a2 ++ Rep.cells h.a3 ++ Rep.cells h.a4), by decide, fun _ => rfl, fun _ => rfl⟩
/-- A shelf where it lies. -/
structure Sh where
  g : Nat
  v : Value
  one : v.oneCell' = true
  sf : Sf
@[reducible] def ShB (most : Int) (s : Sh) : Assn := ShO s.g most s.sf.cut s.v
@[reducible] def ShC (s : Sh) : Assn := Evs_ s.v (s.sf.all.drop s.sf.cut)
@[reducible] def RShB (most : Int) (s : Sh) : Assn := RShO s.g most s.sf.cut s.v
@[reducible] def RShC (s : Sh) : Assn := Evs_ s.v s.sf.all
def StarOf (B C : Sh → Assn) (ss : List Sh) : Assn := Star (ss.map fun s => Two (B s) (C s))
def StarBut (B C : Sh → Assn) (ss : List Sh) (i : Nat) : Assn := Star ((ss.map fun s => Two (B s) (C s)).eraseIdx i)
theorem StarOf.focus {B C : Sh → Assn} {ss : List Sh} {i : Nat} (L : List Assn) (h : i < ss.length) : Sub (B (ss[i]'h) :: C (ss[i]'h) :: StarBut B C ss i :: L) (StarOf B C ss :: L) :=
  Sub.trans (Two.opn _ _ _) (Star.focus (As := ss.map fun s => Two (B s) (C s)) (i := i) L (by simp [h]))
theorem StarOf.unfocus {B C : Sh → Assn} {ss : List Sh} {i : Nat} (x : Sh) (L : List Assn) (h : i < ss.length) : Sub (StarOf B C (ss.set i x) :: L) (B x :: C x :: StarBut B C ss i :: L) := by
  have h1 := Star.unfocus (As := ss.map fun s => Two (B s) (C s)) (i := i) (Two (B x) (C x)) L (by simpa using h)
  unfold StarOf
  rw [List.map_set]
  exact Sub.trans h1 (Two.cls _ _ _)
theorem StarOf.back {B C : Sh → Assn} {ss : List Sh} {i : Nat} (L : List Assn) (h : i < ss.length) : Sub (StarOf B C ss :: L) (B (ss[i]'h) :: C (ss[i]'h) :: StarBut B C ss i :: L) := by
  have := StarOf.unfocus (B := B) (C := C) (ss := ss) (i := i) (ss[i]'h) L h
  rwa [List.set_getElem_self] at this
theorem StarOf.last {B C : Sh → Assn} {ss : List Sh} (x : Sh) (L : List Assn) : Sub (StarOf B C (ss ++ [x]) :: L) (B x :: C x :: StarOf B C ss :: L) := by
  unfold StarOf
  rw [List.map_append]
  exact Sub.trans (Star.last (As := ss.map fun s => Two (B s) (C s)) (Two (B x) (C x)) L) (Two.cls _ _ _)
theorem StarOf.nil {B C : Sh → Assn} (L : List Assn) : Sub (StarOf B C [] :: L) L := Star.nil L
end Go.Proofs.Ytkcpgdkchglhhaa
