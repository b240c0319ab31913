/- Configs, contacts, and what may be done, in plain words. No condition. -/
import Derived.Test.YtekbhnlgoekhkaaTextE
namespace Go.Proofs.Ytekbhnlgoekhkaa
open Go.RowKit
set_option linter.unusedSimpArgs false
set_option linter.unusedVariables false
structure Cfg where
  n : Int
  w : Int
  q : Int
  h : Int
  l : Int
  p : Int
instance : Rep Cfg := ⟨6, fun c => [.int .i64 c.n, .int .i64 c.w, .int .i64 c.q, .int .i64 c.h, .int .i64 c.l, .int .i64 c.p], by decide, fun _ => rfl, fun _ => rfl⟩
/-- A contact: its sets are slices of texts. -/
structure Ct where
  key : List UInt8
  has0 : Bool
  has1 : Bool
  f0 : List UInt8
  f1 : List UInt8
  v0 : Value
  o0 : v0.oneCell' = true
  s0 : List Txt
  v1 : Value
  o1 : v1.oneCell' = true
  s1 : List Txt
instance : Rep Ct := ⟨7, fun c => [.string (S c.key), .bool c.has0, .bool c.has1, .string (S c.f0), .string (S c.f1), c.v0, c.v1], by decide, fun _ => rfl, fun c => by simp [c.o0, c.o1]; exact ⟨rfl, rfl, rfl, rfl, rfl⟩⟩
instance : ZRep Try.prog 45 Ct := ⟨⟨[], false, false, [], [], .slice none 0 0, rfl, [], .slice none 0 0, rfl, []⟩, by kernel_rfl, by kernel_rfl⟩
/-- Both sets can be read. -/
def Ct.Rd (L : List Assn) (c : Ct) : Prop := RdT L c.v0 c.s0 ∧ RdT L c.v1 c.s1
theorem Ct.Rd.sub {L L' : List Assn} {c : Ct} (h : c.Rd L') (hs : Sub L' L) : c.Rd L := ⟨h.1.sub hs, h.2.sub hs⟩
def Ct.set (c : Ct) (label : Int) : List Txt := if label = 0 then c.s0 else c.s1
def inB (n most : Int) : Bool := decide (1 ≤ n ∧ n ≤ most)
def mayC (c : Cfg) : Bool := inB c.n 5 && inB c.w 4 && inB c.q 8 && inB c.h 20 && inB c.l 4 && inB c.p 3
/-- Where the first one of that key stands; -1: nowhere. -/
def posK (l : List Ct) (k : List UInt8) : Int := if l.findIdx (fun c => decide (c.key = k)) < l.length then (l.findIdx (fun c => decide (c.key = k)) : Int) else -1
def hasT (l : List Txt) (v : List UInt8) : Bool := l.any fun t => decide (t.l = v)
def chkAt (P : Int) (c : Ct) (e : Ed) : Int := if e.kind = 4 then (if P ≤ (c.set e.label).length then 15 else 0) else if e.kind = 5 then (if hasT (c.set e.label) e.value = true then 0 else 16) else 0
def chk (L P : Int) (l : List Ct) (e : Ed) : Int :=
  if e.err ≠ 0 then e.err else
  if e.kind = 1 then (if 0 ≤ posK l e.key then 13 else if L ≤ l.length then 15 else 0) else
  if posK l e.key < 0 then 14 else
  match l[(posK l e.key).toNat]? with
  | none => 14
  | some c => chkAt P c e
theorem posK_ge {l : List Ct} {k : List UInt8} (h : ∀ j (hj : j < l.length), (l[j]'hj).key ≠ k) : posK l k = -1 := by
  unfold posK
  rw [if_neg]
  intro hlt
  have := List.findIdx_getElem (w := hlt)
  exact h _ hlt (of_decide_eq_true this)
theorem posK_at {l : List Ct} {k : List UInt8} {i : Nat} (hi : i < l.length) (he : (l[i]'hi).key = k) (h : ∀ j (hj : j < l.length), j < i → (l[j]'hj).key ≠ k) : posK l k = i := by
  have hf : l.findIdx (fun c : Ct => decide (c.key = k)) = i := by
    rcases Nat.lt_trichotomy (l.findIdx (fun c : Ct => decide (c.key = k))) i with h1 | h1 | h1
    · exact absurd (of_decide_eq_true (List.findIdx_getElem (p := fun c : Ct => decide (c.key = k)) (w := Nat.lt_trans h1 hi))) (h _ (by omega) h1)
    · exact h1
    · have := List.not_of_lt_findIdx h1
      simp [he] at this
  unfold posK
  rw [hf, if_pos hi]
theorem posK_lt (l : List Ct) (k : List UInt8) : posK l k < l.length ∧ -1 ≤ posK l k := by
  unfold posK; split <;> omega
theorem chk_err {L P : Int} {l : List Ct} {e : Ed} (h : e.err ≠ 0) : chk L P l e = e.err := by unfold chk; rw [if_pos h]
theorem chk_new {L P : Int} {l : List Ct} {e : Ed} (h : e.err = 0) (hk : e.kind = 1) : chk L P l e = if 0 ≤ posK l e.key then 13 else if L ≤ l.length then 15 else 0 := by
  unfold chk; rw [if_neg (by omega), if_pos hk]
theorem chk_none {L P : Int} {l : List Ct} {e : Ed} (h : e.err = 0) (hk : e.kind ≠ 1) (hp : posK l e.key = -1) : chk L P l e = 14 := by
  unfold chk; rw [if_neg (by omega), if_neg hk, if_pos (by omega)]
theorem chk_at {L P : Int} {l : List Ct} {e : Ed} {i : Nat} (hi : i < l.length) (h : e.err = 0) (hk : e.kind ≠ 1) (hp : posK l e.key = i) : chk L P l e = chkAt P (l[i]'hi) e := by
  unfold chk; rw [if_neg (by omega), if_neg hk, if_neg (by omega), hp, Int.toNat_natCast, List.getElem?_eq_getElem hi]
/-- Which edits may be. -/
theorem Ed.err_ok {e : Ed} (h : e.err = 0) : 1 ≤ e.kind ∧ e.kind ≤ 5 ∧ (e.label = 0 ∨ e.label = 1) := by
  unfold Ed.err at h
  by_cases hk : e.kind < 1 ∨ 5 < e.kind
  · rw [if_pos hk] at h; omega
  · rw [if_neg hk] at h
    by_cases h2 : keyE e.key ≠ 0
    · rw [if_pos h2] at h; exact absurd h h2
    · rw [if_neg h2] at h
      refine ⟨by omega, by omega, ?_⟩
      by_cases h3 : e.kind = 1 ∨ e.kind = 2
      · rw [if_pos h3] at h
        by_cases h4 : e.label ≠ 0
        · rw [if_pos h4] at h; omega
        · left; omega
      · rw [if_neg h3] at h
        by_cases h4 : labelE e.label ≠ 0
        · rw [if_pos h4] at h; exact absurd h h4
        · unfold labelE at h4
          split at h4
          · omega
          · exact absurd (by decide) h4
end Go.Proofs.Ytekbhnlgoekhkaa
