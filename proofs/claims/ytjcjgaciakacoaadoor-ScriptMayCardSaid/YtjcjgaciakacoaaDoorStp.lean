/- Steps of a script: what bytes say. No condition. -/
import Derived.Test.YtjcjgaciakacoaaDoorDom
import Derived.Test.YtjcjgaciakacoaaDoorSepT
import Derived.Test.YtjcjgaciakacoaaDoorChecked
namespace Go.Proofs.YtjcjgaciakacoaaDoor
open Go.RowKit
set_option linter.unusedSimpArgs false
set_option linter.unusedVariables false
structure Stp where
  kind : Int
  r : Int
  ed : Ed
  at_ : Int
  bit : Int
  mask : Int
  keep : Int
deriving DecidableEq
instance : Rep Stp := ⟨10, fun s => [.int .i64 s.kind, .int .i64 s.r, .int .i64 s.ed.kind, .string (S s.ed.key), .int .i64 s.ed.label, .string (S s.ed.value), .int .i64 s.at_, .int .i64 s.bit, .int .u32 s.mask, .int .i64 s.keep], by decide, fun _ => rfl, fun _ => rfl⟩
instance : EqT Tryd.prog 31 Stp := ⟨6, [.i .i64, .i .i64, .i .i64, .s, .i .i64, .s, .i .i64, .i .i64, .i .u32, .i .i64], rfl, by kernel_rfl, rfl, by kernel_rfl, fun _ => rfl, fun a b h => by
  obtain ⟨a1, a2, ⟨a3, a4, a5, a6⟩, a7, a8, a9, a10⟩ := a
  obtain ⟨b1, b2, ⟨b3, b4, b5, b6⟩, b7, b8, b9, b10⟩ := b
  simp only [Rep.cells, List.cons.injEq, Value.int.injEq, Value.string.injEq, S_inj, true_and, and_true] at h
  simp [h]⟩
instance : EqT Tryd.prog 28 Ed := ⟨6, [.i .i64, .s, .i .i64, .s], rfl, by kernel_rfl, rfl, by kernel_rfl, fun _ => rfl, fun a b h => by
  obtain ⟨a3, a4, a5, a6⟩ := a
  obtain ⟨b3, b4, b5, b6⟩ := b
  simp only [Rep.cells, Ed.cells, List.cons.injEq, Value.int.injEq, Value.string.injEq, S_inj, true_and, and_true] at h
  simp [h]⟩
instance : ZRep Tryd.prog 31 Stp := ⟨⟨0, 0, ⟨0, [], 0, []⟩, 0, 0, 0, 0⟩, by kernel_rfl, by kernel_rfl⟩
def kindC : List Value := [.int .i64 0, .int .i64 0, .int .i64 0, .int .i64 0, .int .i64 0, .int .i64 1, .int .i64 2, .int .i64 3, .int .i64 4, .int .i64 5, .int .i64 6, .int .i64 7, .int .i64 8, .int .i64 9, .int .i64 10, .int .i64 11]
def keyC : List Value := [.string (S [97, 110, 110]), .string (S [98, 111, 98]), .string (S [99, 121]), .string (S [100, 105])]
def valC : List Value := [.string (S [49]), .string (S [50, 50]), .string (S [255]), .string (S [116, 119, 101, 108, 118, 101, 32, 98, 121, 116, 101, 115])]
def kindAt (j : Nat) : Int := [0, 0, 0, 0, 0, 1, 2, 3, 4, 5, 6, 7, 8, 9, 10, 11].getD j 0
def keyAt (j : Nat) : List UInt8 := [[97, 110, 110], [98, 111, 98], [99, 121], [100, 105]].getD j []
def valAt (j : Nat) : List UInt8 := [[49], [50, 50], [255], [116, 119, 101, 108, 118, 101, 32, 98, 121, 116, 101, 115]].getD j []
def edOf (b2 b3 b4 : Int) : Ed := ⟨1 + b2 % 5, keyAt (b3 % 4).toNat, if 1 + b2 % 5 = 1 ∨ 1 + b2 % 5 = 2 then 0 else b4 % 2, if 1 + b2 % 5 = 1 ∨ 1 + b2 % 5 = 2 then [] else valAt (b4 / 2 % 4).toNat⟩
def stp8 (n b0 b1 b2 b3 b4 b5 b6 b7 : Int) : Stp :=
  let k := kindAt (b0 % 16).toNat
  ⟨k, if k = 8 ∨ k = 9 ∨ k = 10 then (if b1 % (n + 1) = n then 5 else b1 % (n + 1)) else b1 % n, if k = 0 then edOf b2 b3 b4 else ⟨0, [], 0, []⟩,
    if k = 4 ∨ k = 5 ∨ k = 6 ∨ k = 7 then b5 % 8 else 0, if k = 7 then b6 + 256 * b3 else 0, if k = 7 then IntKind.u32.wrap ((b7 + 1) * 2 ^ min (b2 % 24).toNat 32) else 0, if k = 10 then b6 else 0⟩
def stepOf (n : Int) (b : List UInt8) : Stp := stp8 n (b.getD 0 0).toNat (b.getD 1 0).toNat (b.getD 2 0).toNat (b.getD 3 0).toNat (b.getD 4 0).toNat (b.getD 5 0).toNat (b.getD 6 0).toNat (b.getD 7 0).toNat
def stepN (n : Int) (l : List UInt8) (i : Nat) : Stp := stepOf n ((l.drop (8 * i)).take 8)
def stepsOf (n : Int) (l : List UInt8) : List Stp := (List.range (l.length / 8)).map (stepN n l)
theorem stepsOf_len (n : Int) (l : List UInt8) : (stepsOf n l).length = l.length / 8 := by simp [stepsOf]
theorem eight {l : List UInt8} (h : l.length = 8) : ∃ a b c d e f g i, l = [a, b, c, d, e, f, g, i] := by
  match l, h with
  | [a, b, c, d, e, f, g, i], _ => exact ⟨a, b, c, d, e, f, g, i, rfl⟩
/-- The tables of package script. -/
structure Tabs (L : List Assn) : Prop where
  kinds : Tab L 0 kindC
  keys : Tab L 1 keyC
  values : Tab L 2 valC
theorem Tabs.sub {L L' : List Assn} (h : Tabs L') (hs : Sub L' L) : Tabs L := ⟨h.1.sub hs, h.2.sub hs, h.3.sub hs⟩
theorem kindAt_bd (j : Nat) : 0 ≤ kindAt j ∧ kindAt j ≤ 11 := by
  unfold kindAt
  by_cases h : j < 16
  · have : j = 0 ∨ j = 1 ∨ j = 2 ∨ j = 3 ∨ j = 4 ∨ j = 5 ∨ j = 6 ∨ j = 7 ∨ j = 8 ∨ j = 9 ∨ j = 10 ∨ j = 11 ∨ j = 12 ∨ j = 13 ∨ j = 14 ∨ j = 15 := by omega
    rcases this with rfl | rfl | rfl | rfl | rfl | rfl | rfl | rfl | rfl | rfl | rfl | rfl | rfl | rfl | rfl | rfl <;> decide
  · rw [List.getD_eq_getElem?_getD, List.getElem?_eq_none (by simp; omega)]; decide
end Go.Proofs.YtjcjgaciakacoaaDoor
