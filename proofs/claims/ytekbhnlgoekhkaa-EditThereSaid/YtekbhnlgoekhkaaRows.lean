/-
  No cell of these rows narrows 'for every input' (looked for: loops, veiled, ifaces, maps, wideKeys, modest, calm, conditions, laid).
  DERIVED. THE GIVEN ROWS OF THIS SEAT. 5 by the template 'for every input the law returns true; each argument reads behind the call as it read before'; 0 by the template 'total and deterministic' (their statements: YtekbhnlgoekhkaaTotals.lean).
  GIVEN WITH THE SEED: the statements are not yours to turn. If you find one false, say at which input.
  Laid BY PROGRAM, IN A SANDBOX (cutbox-rows.mjs): the forced cells as the released guide's own fill.sh prints them over the translation 9afeec7e4db3b451… (all of the seat's roots in one cut). By AI agents, Wed Nov 11 2026. No macro, syntax, notation, axiom, sorry.
-/
import Derived.Test.YtekbhnlgoekhkaaChecked
import GoSem.Claim
import GoSem.ClaimJoined
import GoSem.ClaimMapViews
import Derived.JoinedTies
import Derived.KernelRfl
namespace Go.Proofs.Ytekbhnlgoekhkaa
/- THE CELL 'sum', in the pinned program and in every row, IS THE sha256 OF THE DUMP (.gsa) THAT YtekbhnlgoekhkaaProg.lean LOADS. Nothing in Lean hashes anything: it is a label: what it is worth is what the hold of that sum in a sandbox is worth. -/
noncomputable def Try.pinned : Pinned := { name := "ytekbhnlgoekhkaa", sum := "9afeec7e4db3b4512dd194c60f754be58f6cd02b5a121c3b9d5de439841f0b82", checked := Try.checked }
namespace Rows
def none {H : Type} : Left H := { results := [], args := [] }

/-- 'kithlaw11.EditAll': WHATEVER THE INPUT: true; the input reads as it did. -/
def editAllSpec : ChangeSpec := { name := "editAll", fn := fun _ => fun
  | [d1, d2, d3] => { results := [.lit (.bool true)], args := [d1, d2, d3] }
  | _ => none }
def editAllRow : OpenClaim := { program := "ytekbhnlgoekhkaa", sum := "9afeec7e4db3b4512dd194c60f754be58f6cd02b5a121c3b9d5de439841f0b82", func := "kith/kithlaw11.EditAll", spec := "editAll", unfollowed := true, recurses := true, apart := false }
def EditAllSaid : Prop := editAllRow.holds Try.pinned (OpenSpec.ofChange editAllSpec)

/-- ITS FALSE NEIGHBOUR: 'it returns false'. Refute it at one input. -/
def editAllWrong : ChangeSpec := { name := "editAll", fn := fun _ => fun
  | [d1, d2, d3] => { results := [.lit (.bool false)], args := [d1, d2, d3] }
  | _ => none }
def EditAllWrongFalsely : Prop := editAllRow.holds Try.pinned (OpenSpec.ofChange editAllWrong)

/-- 'kithlaw11.EditBounds': WHATEVER THE INPUT: true; the input reads as it did. -/
def editBoundsSpec : ChangeSpec := { name := "editBounds", fn := fun _ => fun
  | [d1, d2] => { results := [.lit (.bool true)], args := [d1, d2] }
  | _ => none }
def editBoundsRow : OpenClaim := { program := "ytekbhnlgoekhkaa", sum := "9afeec7e4db3b4512dd194c60f754be58f6cd02b5a121c3b9d5de439841f0b82", func := "kith/kithlaw11.EditBounds", spec := "editBounds", unfollowed := true, recurses := true, apart := false }
def EditBoundsSaid : Prop := editBoundsRow.holds Try.pinned (OpenSpec.ofChange editBoundsSpec)

/-- ITS FALSE NEIGHBOUR: 'it returns false'. Refute it at one input. -/
def editBoundsWrong : ChangeSpec := { name := "editBounds", fn := fun _ => fun
  | [d1, d2] => { results := [.lit (.bool false)], args := [d1, d2] }
  | _ => none }
def EditBoundsWrongFalsely : Prop := editBoundsRow.holds Try.pinned (OpenSpec.ofChange editBoundsWrong)

/-- 'kithlaw11.EditThere': WHATEVER THE INPUT: true; the input reads as it did. -/
def editThereSpec : ChangeSpec := { name := "editThere", fn := fun _ => fun
  | [d1, d2, d3] => { results := [.lit (.bool true)], args := [d1, d2, d3] }
  | _ => none }
def editThereRow : OpenClaim := { program := "ytekbhnlgoekhkaa", sum := "9afeec7e4db3b4512dd194c60f754be58f6cd02b5a121c3b9d5de439841f0b82", func := "kith/kithlaw11.EditThere", spec := "editThere", unfollowed := true, recurses := true, apart := false }
def EditThereSaid : Prop := editThereRow.holds Try.pinned (OpenSpec.ofChange editThereSpec)

/-- ITS FALSE NEIGHBOUR: 'it returns false'. Refute it at one input. -/
def editThereWrong : ChangeSpec := { name := "editThere", fn := fun _ => fun
  | [d1, d2, d3] => { results := [.lit (.bool false)], args := [d1, d2, d3] }
  | _ => none }
def EditThereWrongFalsely : Prop := editThereRow.holds Try.pinned (OpenSpec.ofChange editThereWrong)

/-- 'kithlaw11.EditOthers': WHATEVER THE INPUT: true; the input reads as it did. -/
def editOthersSpec : ChangeSpec := { name := "editOthers", fn := fun _ => fun
  | [d1, d2, d3] => { results := [.lit (.bool true)], args := [d1, d2, d3] }
  | _ => none }
def editOthersRow : OpenClaim := { program := "ytekbhnlgoekhkaa", sum := "9afeec7e4db3b4512dd194c60f754be58f6cd02b5a121c3b9d5de439841f0b82", func := "kith/kithlaw11.EditOthers", spec := "editOthers", unfollowed := true, recurses := true, apart := false }
def EditOthersSaid : Prop := editOthersRow.holds Try.pinned (OpenSpec.ofChange editOthersSpec)

/-- ITS FALSE NEIGHBOUR: 'it returns false'. Refute it at one input. -/
def editOthersWrong : ChangeSpec := { name := "editOthers", fn := fun _ => fun
  | [d1, d2, d3] => { results := [.lit (.bool false)], args := [d1, d2, d3] }
  | _ => none }
def EditOthersWrongFalsely : Prop := editOthersRow.holds Try.pinned (OpenSpec.ofChange editOthersWrong)

/-- 'kithlaw11.EditFirst': WHATEVER THE INPUT: true; the input reads as it did. -/
def editFirstSpec : ChangeSpec := { name := "editFirst", fn := fun _ => fun
  | [d1, d2, d3] => { results := [.lit (.bool true)], args := [d1, d2, d3] }
  | _ => none }
def editFirstRow : OpenClaim := { program := "ytekbhnlgoekhkaa", sum := "9afeec7e4db3b4512dd194c60f754be58f6cd02b5a121c3b9d5de439841f0b82", func := "kith/kithlaw11.EditFirst", spec := "editFirst", unfollowed := true, recurses := true, apart := false }
def EditFirstSaid : Prop := editFirstRow.holds Try.pinned (OpenSpec.ofChange editFirstSpec)

/-- ITS FALSE NEIGHBOUR: 'it returns false'. Refute it at one input. -/
def editFirstWrong : ChangeSpec := { name := "editFirst", fn := fun _ => fun
  | [d1, d2, d3] => { results := [.lit (.bool false)], args := [d1, d2, d3] }
  | _ => none }
def EditFirstWrongFalsely : Prop := editFirstRow.holds Try.pinned (OpenSpec.ofChange editFirstWrong)

/- THE SECOND FORM. 'bulk': how many values and letters a reading holds, each counted each time it is reached (what is shared counts as often as it is met; a slice's spare places count too). A statement '..UptoSaid' is the law's where the arguments, and the package variables that the reading takes, are together of bulk at most 1048576: NARROWER than '..Said'. Prove '..Said' where nothing that the law and all that it calls make is longer than what came in: it says more and counts as full. Else prove '..UptoSaid'. A law counts once. -/
mutual
def uptoBulk {H : Type} : DataW H → Nat
  | .lit (.string bytes) => bytes.length + 1
  | .lit _ => 1
  | .nil => 1
  | .ptr d => uptoBulk d + 1
  | .slice elems spare => uptoBulkAll elems + uptoBulkAll spare + 1
  | .agg parts => uptoBulkAll parts + 1
  | .iface _ d => uptoBulk d + 1
  | .map entries => uptoBulkEntries entries + 1
  | .held _ => 1
def uptoBulkAll {H : Type} : List (DataW H) → Nat
  | [] => 0
  | d :: r => uptoBulk d + uptoBulkAll r
def uptoBulkEntries {H : Type} : List (Lit × DataW H) → Nat
  | [] => 0
  | x :: r => uptoBulkEntry x + uptoBulkEntries r
def uptoBulkEntry {H : Type} : Lit × DataW H → Nat
  | (.string bytes, d) => bytes.length + uptoBulk d + 1
  | (_, d) => uptoBulk d + 1
 end
def uptoSmall : (H : Type) → List (DataW H) → Bool := fun _ ds => decide (uptoBulkAll ds ≤ 1048576)
def OpenSpec.upto (s : _root_.Go.ChangeSpec) : _root_.Go.OpenSpec := { _root_.Go.OpenSpec.ofChange s with cond := some uptoSmall }

/-- 'kithlaw11.EditAll', WHERE WHAT IT READS IS OF BULK AT MOST 1048576: true; the input reads as it did. -/
def editAllUptoRow : OpenClaim := { program := "ytekbhnlgoekhkaa", sum := "9afeec7e4db3b4512dd194c60f754be58f6cd02b5a121c3b9d5de439841f0b82", func := "kith/kithlaw11.EditAll", spec := "editAll", unfollowed := true, recurses := true, apart := false, narrowed := true }
def EditAllUptoSaid : Prop := editAllUptoRow.holds Try.pinned (OpenSpec.upto editAllSpec)

/-- 'kithlaw11.EditBounds', WHERE WHAT IT READS IS OF BULK AT MOST 1048576: true; the input reads as it did. -/
def editBoundsUptoRow : OpenClaim := { program := "ytekbhnlgoekhkaa", sum := "9afeec7e4db3b4512dd194c60f754be58f6cd02b5a121c3b9d5de439841f0b82", func := "kith/kithlaw11.EditBounds", spec := "editBounds", unfollowed := true, recurses := true, apart := false, narrowed := true }
def EditBoundsUptoSaid : Prop := editBoundsUptoRow.holds Try.pinned (OpenSpec.upto editBoundsSpec)

/-- 'kithlaw11.EditThere', WHERE WHAT IT READS IS OF BULK AT MOST 1048576: true; the input reads as it did. -/
def editThereUptoRow : OpenClaim := { program := "ytekbhnlgoekhkaa", sum := "9afeec7e4db3b4512dd194c60f754be58f6cd02b5a121c3b9d5de439841f0b82", func := "kith/kithlaw11.EditThere", spec := "editThere", unfollowed := true, recurses := true, apart := false, narrowed := true }
def EditThereUptoSaid : Prop := editThereUptoRow.holds Try.pinned (OpenSpec.upto editThereSpec)

/-- 'kithlaw11.EditOthers', WHERE WHAT IT READS IS OF BULK AT MOST 1048576: true; the input reads as it did. -/
def editOthersUptoRow : OpenClaim := { program := "ytekbhnlgoekhkaa", sum := "9afeec7e4db3b4512dd194c60f754be58f6cd02b5a121c3b9d5de439841f0b82", func := "kith/kithlaw11.EditOthers", spec := "editOthers", unfollowed := true, recurses := true, apart := false, narrowed := true }
def EditOthersUptoSaid : Prop := editOthersUptoRow.holds Try.pinned (OpenSpec.upto editOthersSpec)

/-- 'kithlaw11.EditFirst', WHERE WHAT IT READS IS OF BULK AT MOST 1048576: true; the input reads as it did. -/
def editFirstUptoRow : OpenClaim := { program := "ytekbhnlgoekhkaa", sum := "9afeec7e4db3b4512dd194c60f754be58f6cd02b5a121c3b9d5de439841f0b82", func := "kith/kithlaw11.EditFirst", spec := "editFirst", unfollowed := true, recurses := true, apart := false, narrowed := true }
def EditFirstUptoSaid : Prop := editFirstUptoRow.holds Try.pinned (OpenSpec.upto editFirstSpec)

end Rows
end Go.Proofs.Ytekbhnlgoekhkaa
