/-
  No cell of these rows narrows 'for every input' (looked for: loops, veiled, ifaces, maps, wideKeys, modest, calm, conditions, laid).
  DERIVED. THE GIVEN ROWS OF THIS SEAT. 8 by the template 'for every input the law returns true; each argument reads behind the call as it read before'; 0 by the template 'total and deterministic' (their statements: YtjcjgaciakacoaaTotals.lean).
  GIVEN WITH THE SEED: the statements are not yours to turn. If you find one false, say at which input.
  Laid BY PROGRAM, IN A SANDBOX (cutbox-rows.mjs): the forced cells as the released guide's own fill.sh prints them over the translation 8c27b5ac65b807df… (all of the seat's roots in one cut). By AI agents, Wed Nov 11 2026. No macro, syntax, notation, axiom, sorry.
-/
import Derived.Test.YtjcjgaciakacoaaChecked
import GoSem.Claim
import GoSem.ClaimJoined
import GoSem.ClaimMapViews
import Derived.JoinedTies
import Derived.KernelRfl
namespace Go.Proofs.Ytjcjgaciakacoaa
/- THE CELL 'sum', in the pinned program and in every row, IS THE sha256 OF THE DUMP (.gsa) THAT YtjcjgaciakacoaaProg.lean LOADS. Nothing in Lean hashes anything: it is a label: what it is worth is what the hold of that sum in a sandbox is worth. -/
noncomputable def Try.pinned : Pinned := { name := "ytjcjgaciakacoaa", sum := "8c27b5ac65b807dfad3499cea4dbcdd9aadcbe6e50534218ac99a34bfa391a56", checked := Try.checked }
namespace Rows
def none {H : Type} : Left H := { results := [], args := [] }

/-- 'kithlaw17.DiskKeeps': WHATEVER THE INPUT: true; the input reads as it did. -/
def diskKeepsSpec : ChangeSpec := { name := "diskKeeps", fn := fun _ => fun
  | [d1, d2, d3] => { results := [.lit (.bool true)], args := [d1, d2, d3] }
  | _ => none }
def diskKeepsRow : OpenClaim := { program := "ytjcjgaciakacoaa", sum := "8c27b5ac65b807dfad3499cea4dbcdd9aadcbe6e50534218ac99a34bfa391a56", func := "kith/kithlaw17.DiskKeeps", spec := "diskKeeps", apart := false }
def DiskKeepsSaid : Prop := diskKeepsRow.holds Try.pinned (OpenSpec.ofChange diskKeepsSpec)

/-- ITS FALSE NEIGHBOUR: 'it returns false'. Refute it at one input. -/
def diskKeepsWrong : ChangeSpec := { name := "diskKeeps", fn := fun _ => fun
  | [d1, d2, d3] => { results := [.lit (.bool false)], args := [d1, d2, d3] }
  | _ => none }
def DiskKeepsWrongFalsely : Prop := diskKeepsRow.holds Try.pinned (OpenSpec.ofChange diskKeepsWrong)

/-- 'kithlaw17.DiskCuts': WHATEVER THE INPUT: true; the input reads as it did. -/
def diskCutsSpec : ChangeSpec := { name := "diskCuts", fn := fun _ => fun
  | [d1, d2, d3] => { results := [.lit (.bool true)], args := [d1, d2, d3] }
  | _ => none }
def diskCutsRow : OpenClaim := { program := "ytjcjgaciakacoaa", sum := "8c27b5ac65b807dfad3499cea4dbcdd9aadcbe6e50534218ac99a34bfa391a56", func := "kith/kithlaw17.DiskCuts", spec := "diskCuts", apart := false }
def DiskCutsSaid : Prop := diskCutsRow.holds Try.pinned (OpenSpec.ofChange diskCutsSpec)

/-- ITS FALSE NEIGHBOUR: 'it returns false'. Refute it at one input. -/
def diskCutsWrong : ChangeSpec := { name := "diskCuts", fn := fun _ => fun
  | [d1, d2, d3] => { results := [.lit (.bool false)], args := [d1, d2, d3] }
  | _ => none }
def DiskCutsWrongFalsely : Prop := diskCutsRow.holds Try.pinned (OpenSpec.ofChange diskCutsWrong)

/-- 'kithlaw17.DiskPlays': WHATEVER THE INPUT: true; the input reads as it did. -/
def diskPlaysSpec : ChangeSpec := { name := "diskPlays", fn := fun _ => fun
  | [d] => { results := [.lit (.bool true)], args := [d] }
  | _ => none }
def diskPlaysRow : OpenClaim := { program := "ytjcjgaciakacoaa", sum := "8c27b5ac65b807dfad3499cea4dbcdd9aadcbe6e50534218ac99a34bfa391a56", func := "kith/kithlaw17.DiskPlays", spec := "diskPlays", apart := false }
def DiskPlaysSaid : Prop := diskPlaysRow.holds Try.pinned (OpenSpec.ofChange diskPlaysSpec)

/-- ITS FALSE NEIGHBOUR: 'it returns false'. Refute it at one input. -/
def diskPlaysWrong : ChangeSpec := { name := "diskPlays", fn := fun _ => fun
  | [d] => { results := [.lit (.bool false)], args := [d] }
  | _ => none }
def DiskPlaysWrongFalsely : Prop := diskPlaysRow.holds Try.pinned (OpenSpec.ofChange diskPlaysWrong)

/-- 'kithlaw17.DiskTrims': WHATEVER THE INPUT: true; the input reads as it did. -/
def diskTrimsSpec : ChangeSpec := { name := "diskTrims", fn := fun _ => fun
  | [d1, d2, d3] => { results := [.lit (.bool true)], args := [d1, d2, d3] }
  | _ => none }
def diskTrimsRow : OpenClaim := { program := "ytjcjgaciakacoaa", sum := "8c27b5ac65b807dfad3499cea4dbcdd9aadcbe6e50534218ac99a34bfa391a56", func := "kith/kithlaw17.DiskTrims", spec := "diskTrims", apart := false }
def DiskTrimsSaid : Prop := diskTrimsRow.holds Try.pinned (OpenSpec.ofChange diskTrimsSpec)

/-- ITS FALSE NEIGHBOUR: 'it returns false'. Refute it at one input. -/
def diskTrimsWrong : ChangeSpec := { name := "diskTrims", fn := fun _ => fun
  | [d1, d2, d3] => { results := [.lit (.bool false)], args := [d1, d2, d3] }
  | _ => none }
def DiskTrimsWrongFalsely : Prop := diskTrimsRow.holds Try.pinned (OpenSpec.ofChange diskTrimsWrong)

/-- 'kithlaw21.LinkPlays': WHATEVER THE INPUT: true; the input reads as it did. -/
def linkPlaysSpec : ChangeSpec := { name := "linkPlays", fn := fun _ => fun
  | [d] => { results := [.lit (.bool true)], args := [d] }
  | _ => none }
def linkPlaysRow : OpenClaim := { program := "ytjcjgaciakacoaa", sum := "8c27b5ac65b807dfad3499cea4dbcdd9aadcbe6e50534218ac99a34bfa391a56", func := "kith/kithlaw21.LinkPlays", spec := "linkPlays", apart := false }
def LinkPlaysSaid : Prop := linkPlaysRow.holds Try.pinned (OpenSpec.ofChange linkPlaysSpec)

/-- ITS FALSE NEIGHBOUR: 'it returns false'. Refute it at one input. -/
def linkPlaysWrong : ChangeSpec := { name := "linkPlays", fn := fun _ => fun
  | [d] => { results := [.lit (.bool false)], args := [d] }
  | _ => none }
def LinkPlaysWrongFalsely : Prop := linkPlaysRow.holds Try.pinned (OpenSpec.ofChange linkPlaysWrong)

/-- 'kithlaw21.LinkBursts': WHATEVER THE INPUT: true; the input reads as it did. -/
def linkBurstsSpec : ChangeSpec := { name := "linkBursts", fn := fun _ => fun
  | [d1, d2, d3] => { results := [.lit (.bool true)], args := [d1, d2, d3] }
  | _ => none }
def linkBurstsRow : OpenClaim := { program := "ytjcjgaciakacoaa", sum := "8c27b5ac65b807dfad3499cea4dbcdd9aadcbe6e50534218ac99a34bfa391a56", func := "kith/kithlaw21.LinkBursts", spec := "linkBursts", apart := false }
def LinkBurstsSaid : Prop := linkBurstsRow.holds Try.pinned (OpenSpec.ofChange linkBurstsSpec)

/-- ITS FALSE NEIGHBOUR: 'it returns false'. Refute it at one input. -/
def linkBurstsWrong : ChangeSpec := { name := "linkBursts", fn := fun _ => fun
  | [d1, d2, d3] => { results := [.lit (.bool false)], args := [d1, d2, d3] }
  | _ => none }
def LinkBurstsWrongFalsely : Prop := linkBurstsRow.holds Try.pinned (OpenSpec.ofChange linkBurstsWrong)

/-- 'kithlaw21.LinkOrders': WHATEVER THE INPUT: true; the input reads as it did. -/
def linkOrdersSpec : ChangeSpec := { name := "linkOrders", fn := fun _ => fun
  | [d1, d2] => { results := [.lit (.bool true)], args := [d1, d2] }
  | _ => none }
def linkOrdersRow : OpenClaim := { program := "ytjcjgaciakacoaa", sum := "8c27b5ac65b807dfad3499cea4dbcdd9aadcbe6e50534218ac99a34bfa391a56", func := "kith/kithlaw21.LinkOrders", spec := "linkOrders", apart := false }
def LinkOrdersSaid : Prop := linkOrdersRow.holds Try.pinned (OpenSpec.ofChange linkOrdersSpec)

/-- ITS FALSE NEIGHBOUR: 'it returns false'. Refute it at one input. -/
def linkOrdersWrong : ChangeSpec := { name := "linkOrders", fn := fun _ => fun
  | [d1, d2] => { results := [.lit (.bool false)], args := [d1, d2] }
  | _ => none }
def LinkOrdersWrongFalsely : Prop := linkOrdersRow.holds Try.pinned (OpenSpec.ofChange linkOrdersWrong)

/-- 'kithlaw21.LinkClean': WHATEVER THE INPUT: true; the input reads as it did. -/
def linkCleanSpec : ChangeSpec := { name := "linkClean", fn := fun _ => fun
  | [d1, d2] => { results := [.lit (.bool true)], args := [d1, d2] }
  | _ => none }
def linkCleanRow : OpenClaim := { program := "ytjcjgaciakacoaa", sum := "8c27b5ac65b807dfad3499cea4dbcdd9aadcbe6e50534218ac99a34bfa391a56", func := "kith/kithlaw21.LinkClean", spec := "linkClean", apart := false }
def LinkCleanSaid : Prop := linkCleanRow.holds Try.pinned (OpenSpec.ofChange linkCleanSpec)

/-- ITS FALSE NEIGHBOUR: 'it returns false'. Refute it at one input. -/
def linkCleanWrong : ChangeSpec := { name := "linkClean", fn := fun _ => fun
  | [d1, d2] => { results := [.lit (.bool false)], args := [d1, d2] }
  | _ => none }
def LinkCleanWrongFalsely : Prop := linkCleanRow.holds Try.pinned (OpenSpec.ofChange linkCleanWrong)

/- THE SECOND FORM. 'bulk': how many values and letters a reading holds, each counted each time it is reached (what is shared counts as often as it is met; a slice's spare places count too). A statement '..UptoSaid' is the law's where the arguments, and the package variables that the reading takes, are together of bulk at most 1048576: NARROWER than '..Said'. Prove '..Said' where nothing that the law and all that it calls make is longer than what came in: it says more and counts as full. Else prove '..UptoSaid'. A law counts once. -/
mutual
def uptoBulk {H : Type} : DataW H → Nat
  | .lit (.string bytes) => bytes.length + 1
  | .lit _ => 1
  | .nil => 1
  | .ptr d => uptoBulk d + 1
  | .slice elems spare => uptoBulkAll elems + uptoBulkAll spare + 1
  | .agg parts => uptoBulkAll parts + 1
  | .iface _ d => uptoBulk d + 1
  | .map entries => uptoBulkEntries entries + 1
  | .held _ => 1
def uptoBulkAll {H : Type} : List (DataW H) → Nat
  | [] => 0
  | d :: r => uptoBulk d + uptoBulkAll r
def uptoBulkEntries {H : Type} : List (Lit × DataW H) → Nat
  | [] => 0
  | x :: r => uptoBulkEntry x + uptoBulkEntries r
def uptoBulkEntry {H : Type} : Lit × DataW H → Nat
  | (.string bytes, d) => bytes.length + uptoBulk d + 1
  | (_, d) => uptoBulk d + 1
 end
def uptoSmall : (H : Type) → List (DataW H) → Bool := fun _ ds => decide (uptoBulkAll ds ≤ 1048576)
def OpenSpec.upto (s : _root_.Go.ChangeSpec) : _root_.Go.OpenSpec := { _root_.Go.OpenSpec.ofChange s with cond := some uptoSmall }

/-- 'kithlaw17.DiskKeeps', WHERE WHAT IT READS IS OF BULK AT MOST 1048576: true; the input reads as it did. -/
def diskKeepsUptoRow : OpenClaim := { program := "ytjcjgaciakacoaa", sum := "8c27b5ac65b807dfad3499cea4dbcdd9aadcbe6e50534218ac99a34bfa391a56", func := "kith/kithlaw17.DiskKeeps", spec := "diskKeeps", apart := false, narrowed := true }
def DiskKeepsUptoSaid : Prop := diskKeepsUptoRow.holds Try.pinned (OpenSpec.upto diskKeepsSpec)

/-- 'kithlaw17.DiskCuts', WHERE WHAT IT READS IS OF BULK AT MOST 1048576: true; the input reads as it did. -/
def diskCutsUptoRow : OpenClaim := { program := "ytjcjgaciakacoaa", sum := "8c27b5ac65b807dfad3499cea4dbcdd9aadcbe6e50534218ac99a34bfa391a56", func := "kith/kithlaw17.DiskCuts", spec := "diskCuts", apart := false, narrowed := true }
def DiskCutsUptoSaid : Prop := diskCutsUptoRow.holds Try.pinned (OpenSpec.upto diskCutsSpec)

/-- 'kithlaw17.DiskPlays', WHERE WHAT IT READS IS OF BULK AT MOST 1048576: true; the input reads as it did. -/
def diskPlaysUptoRow : OpenClaim := { program := "ytjcjgaciakacoaa", sum := "8c27b5ac65b807dfad3499cea4dbcdd9aadcbe6e50534218ac99a34bfa391a56", func := "kith/kithlaw17.DiskPlays", spec := "diskPlays", apart := false, narrowed := true }
def DiskPlaysUptoSaid : Prop := diskPlaysUptoRow.holds Try.pinned (OpenSpec.upto diskPlaysSpec)

/-- 'kithlaw17.DiskTrims', WHERE WHAT IT READS IS OF BULK AT MOST 1048576: true; the input reads as it did. -/
def diskTrimsUptoRow : OpenClaim := { program := "ytjcjgaciakacoaa", sum := "8c27b5ac65b807dfad3499cea4dbcdd9aadcbe6e50534218ac99a34bfa391a56", func := "kith/kithlaw17.DiskTrims", spec := "diskTrims", apart := false, narrowed := true }
def DiskTrimsUptoSaid : Prop := diskTrimsUptoRow.holds Try.pinned (OpenSpec.upto diskTrimsSpec)

/-- 'kithlaw21.LinkPlays', WHERE WHAT IT READS IS OF BULK AT MOST 1048576: true; the input reads as it did. -/
def linkPlaysUptoRow : OpenClaim := { program := "ytjcjgaciakacoaa", sum := "8c27b5ac65b807dfad3499cea4dbcdd9aadcbe6e50534218ac99a34bfa391a56", func := "kith/kithlaw21.LinkPlays", spec := "linkPlays", apart := false, narrowed := true }
def LinkPlaysUptoSaid : Prop := linkPlaysUptoRow.holds Try.pinned (OpenSpec.upto linkPlaysSpec)

/-- 'kithlaw21.LinkBursts', WHERE WHAT IT READS IS OF BULK AT MOST 1048576: true; the input reads as it did. -/
def linkBurstsUptoRow : OpenClaim := { program := "ytjcjgaciakacoaa", sum := "8c27b5ac65b807dfad3499cea4dbcdd9aadcbe6e50534218ac99a34bfa391a56", func := "kith/kithlaw21.LinkBursts", spec := "linkBursts", apart := false, narrowed := true }
def LinkBurstsUptoSaid : Prop := linkBurstsUptoRow.holds Try.pinned (OpenSpec.upto linkBurstsSpec)

/-- 'kithlaw21.LinkOrders', WHERE WHAT IT READS IS OF BULK AT MOST 1048576: true; the input reads as it did. -/
def linkOrdersUptoRow : OpenClaim := { program := "ytjcjgaciakacoaa", sum := "8c27b5ac65b807dfad3499cea4dbcdd9aadcbe6e50534218ac99a34bfa391a56", func := "kith/kithlaw21.LinkOrders", spec := "linkOrders", apart := false, narrowed := true }
def LinkOrdersUptoSaid : Prop := linkOrdersUptoRow.holds Try.pinned (OpenSpec.upto linkOrdersSpec)

/-- 'kithlaw21.LinkClean', WHERE WHAT IT READS IS OF BULK AT MOST 1048576: true; the input reads as it did. -/
def linkCleanUptoRow : OpenClaim := { program := "ytjcjgaciakacoaa", sum := "8c27b5ac65b807dfad3499cea4dbcdd9aadcbe6e50534218ac99a34bfa391a56", func := "kith/kithlaw21.LinkClean", spec := "linkClean", apart := false, narrowed := true }
def LinkCleanUptoSaid : Prop := linkCleanUptoRow.holds Try.pinned (OpenSpec.upto linkCleanSpec)

end Rows
end Go.Proofs.Ytjcjgaciakacoaa
