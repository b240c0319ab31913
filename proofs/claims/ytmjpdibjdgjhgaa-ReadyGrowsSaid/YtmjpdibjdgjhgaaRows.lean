/-
  No cell of these rows narrows 'for every input' (looked for: loops, veiled, ifaces, maps, wideKeys, modest, calm, conditions, laid).
  DERIVED. THE GIVEN ROWS OF THIS SEAT. 10 by the template 'for every input the law returns true; each argument reads behind the call as it read before'; 0 by the template 'total and deterministic' (their statements: YtmjpdibjdgjhgaaTotals.lean).
  GIVEN WITH THE SEED: the statements are not yours to turn. If you find one false, say at which input.
  Laid BY PROGRAM, IN A SANDBOX (cutbox-rows.mjs): the forced cells as the released guide's own fill.sh prints them over the translation eacc187851811a7f… (all of the seat's roots in one cut). By AI agents, Wed Nov 11 2026. No macro, syntax, notation, axiom, sorry.
-/
import Derived.Test.YtmjpdibjdgjhgaaChecked
import GoSem.Claim
import GoSem.ClaimJoined
import GoSem.ClaimMapViews
import Derived.JoinedTies
import Derived.KernelRfl
namespace Go.Proofs.Ytmjpdibjdgjhgaa
/- THE CELL 'sum', in the pinned program and in every row, IS THE sha256 OF THE DUMP (.gsa) THAT YtmjpdibjdgjhgaaProg.lean LOADS. Nothing in Lean hashes anything: it is a label: what it is worth is what the hold of that sum in a sandbox is worth. -/
noncomputable def Try.pinned : Pinned := { name := "ytmjpdibjdgjhgaa", sum := "eacc187851811a7f2145d2e1c7f9fa238db06100b8f0bad9c21e949bb06e689c", checked := Try.checked }
namespace Rows
def none {H : Type} : Left H := { results := [], args := [] }

/-- 'kithlaw12.ReadyAll': WHATEVER THE INPUT: true; the input reads as it did. -/
def readyAllSpec : ChangeSpec := { name := "readyAll", fn := fun _ => fun
  | [d1, d2] => { results := [.lit (.bool true)], args := [d1, d2] }
  | _ => none }
def readyAllRow : OpenClaim := { program := "ytmjpdibjdgjhgaa", sum := "eacc187851811a7f2145d2e1c7f9fa238db06100b8f0bad9c21e949bb06e689c", func := "kith/kithlaw12.ReadyAll", spec := "readyAll", plainKeys := false, apart := false }
def ReadyAllSaid : Prop := readyAllRow.holds Try.pinned (OpenSpec.ofChange readyAllSpec)

/-- ITS FALSE NEIGHBOUR: 'it returns false'. Refute it at one input. -/
def readyAllWrong : ChangeSpec := { name := "readyAll", fn := fun _ => fun
  | [d1, d2] => { results := [.lit (.bool false)], args := [d1, d2] }
  | _ => none }
def ReadyAllWrongFalsely : Prop := readyAllRow.holds Try.pinned (OpenSpec.ofChange readyAllWrong)

/-- 'kithlaw12.ReadyClosed': WHATEVER THE INPUT: true; the input reads as it did. -/
def readyClosedSpec : ChangeSpec := { name := "readyClosed", fn := fun _ => fun
  | [d1, d2] => { results := [.lit (.bool true)], args := [d1, d2] }
  | _ => none }
def readyClosedRow : OpenClaim := { program := "ytmjpdibjdgjhgaa", sum := "eacc187851811a7f2145d2e1c7f9fa238db06100b8f0bad9c21e949bb06e689c", func := "kith/kithlaw12.ReadyClosed", spec := "readyClosed", plainKeys := false, apart := false }
def ReadyClosedSaid : Prop := readyClosedRow.holds Try.pinned (OpenSpec.ofChange readyClosedSpec)

/-- ITS FALSE NEIGHBOUR: 'it returns false'. Refute it at one input. -/
def readyClosedWrong : ChangeSpec := { name := "readyClosed", fn := fun _ => fun
  | [d1, d2] => { results := [.lit (.bool false)], args := [d1, d2] }
  | _ => none }
def ReadyClosedWrongFalsely : Prop := readyClosedRow.holds Try.pinned (OpenSpec.ofChange readyClosedWrong)

/-- 'kithlaw12.ReadyOne': WHATEVER THE INPUT: true; the input reads as it did. -/
def readyOneSpec : ChangeSpec := { name := "readyOne", fn := fun _ => fun
  | [d1, d2, d3] => { results := [.lit (.bool true)], args := [d1, d2, d3] }
  | _ => none }
def readyOneRow : OpenClaim := { program := "ytmjpdibjdgjhgaa", sum := "eacc187851811a7f2145d2e1c7f9fa238db06100b8f0bad9c21e949bb06e689c", func := "kith/kithlaw12.ReadyOne", spec := "readyOne", plainKeys := false, apart := false }
def ReadyOneSaid : Prop := readyOneRow.holds Try.pinned (OpenSpec.ofChange readyOneSpec)

/-- ITS FALSE NEIGHBOUR: 'it returns false'. Refute it at one input. -/
def readyOneWrong : ChangeSpec := { name := "readyOne", fn := fun _ => fun
  | [d1, d2, d3] => { results := [.lit (.bool false)], args := [d1, d2, d3] }
  | _ => none }
def ReadyOneWrongFalsely : Prop := readyOneRow.holds Try.pinned (OpenSpec.ofChange readyOneWrong)

/-- 'kithlaw13.InboxFull': WHATEVER THE INPUT: true; the input reads as it did. -/
def inboxFullSpec : ChangeSpec := { name := "inboxFull", fn := fun _ => fun
  | [d] => { results := [.lit (.bool true)], args := [d] }
  | _ => none }
def inboxFullRow : OpenClaim := { program := "ytmjpdibjdgjhgaa", sum := "eacc187851811a7f2145d2e1c7f9fa238db06100b8f0bad9c21e949bb06e689c", func := "kith/kithlaw13.InboxFull", spec := "inboxFull", unfollowed := true, recurses := true, plainKeys := false, apart := false }
def InboxFullSaid : Prop := inboxFullRow.holds Try.pinned (OpenSpec.ofChange inboxFullSpec)

/-- ITS FALSE NEIGHBOUR: 'it returns false'. Refute it at one input. -/
def inboxFullWrong : ChangeSpec := { name := "inboxFull", fn := fun _ => fun
  | [d] => { results := [.lit (.bool false)], args := [d] }
  | _ => none }
def InboxFullWrongFalsely : Prop := inboxFullRow.holds Try.pinned (OpenSpec.ofChange inboxFullWrong)

/-- 'kithlaw13.InboxLoses': WHATEVER THE INPUT: true; the input reads as it did. -/
def inboxLosesSpec : ChangeSpec := { name := "inboxLoses", fn := fun _ => fun
  | [d1, d2] => { results := [.lit (.bool true)], args := [d1, d2] }
  | _ => none }
def inboxLosesRow : OpenClaim := { program := "ytmjpdibjdgjhgaa", sum := "eacc187851811a7f2145d2e1c7f9fa238db06100b8f0bad9c21e949bb06e689c", func := "kith/kithlaw13.InboxLoses", spec := "inboxLoses", unfollowed := true, recurses := true, plainKeys := false, apart := false }
def InboxLosesSaid : Prop := inboxLosesRow.holds Try.pinned (OpenSpec.ofChange inboxLosesSpec)

/-- ITS FALSE NEIGHBOUR: 'it returns false'. Refute it at one input. -/
def inboxLosesWrong : ChangeSpec := { name := "inboxLoses", fn := fun _ => fun
  | [d1, d2] => { results := [.lit (.bool false)], args := [d1, d2] }
  | _ => none }
def InboxLosesWrongFalsely : Prop := inboxLosesRow.holds Try.pinned (OpenSpec.ofChange inboxLosesWrong)

/-- 'kithlaw13.InboxPlays': WHATEVER THE INPUT: true; the input reads as it did. -/
def inboxPlaysSpec : ChangeSpec := { name := "inboxPlays", fn := fun _ => fun
  | [d1, d2, d3] => { results := [.lit (.bool true)], args := [d1, d2, d3] }
  | _ => none }
def inboxPlaysRow : OpenClaim := { program := "ytmjpdibjdgjhgaa", sum := "eacc187851811a7f2145d2e1c7f9fa238db06100b8f0bad9c21e949bb06e689c", func := "kith/kithlaw13.InboxPlays", spec := "inboxPlays", unfollowed := true, recurses := true, plainKeys := false, apart := false }
def InboxPlaysSaid : Prop := inboxPlaysRow.holds Try.pinned (OpenSpec.ofChange inboxPlaysSpec)

/-- ITS FALSE NEIGHBOUR: 'it returns false'. Refute it at one input. -/
def inboxPlaysWrong : ChangeSpec := { name := "inboxPlays", fn := fun _ => fun
  | [d1, d2, d3] => { results := [.lit (.bool false)], args := [d1, d2, d3] }
  | _ => none }
def InboxPlaysWrongFalsely : Prop := inboxPlaysRow.holds Try.pinned (OpenSpec.ofChange inboxPlaysWrong)

/-- 'kithlaw12.ReadyPieces': WHATEVER THE INPUT: true; the input reads as it did. -/
def readyPiecesSpec : ChangeSpec := { name := "readyPieces", fn := fun _ => fun
  | [d1, d2, d3] => { results := [.lit (.bool true)], args := [d1, d2, d3] }
  | _ => none }
def readyPiecesRow : OpenClaim := { program := "ytmjpdibjdgjhgaa", sum := "eacc187851811a7f2145d2e1c7f9fa238db06100b8f0bad9c21e949bb06e689c", func := "kith/kithlaw12.ReadyPieces", spec := "readyPieces", plainKeys := false, apart := false }
def ReadyPiecesSaid : Prop := readyPiecesRow.holds Try.pinned (OpenSpec.ofChange readyPiecesSpec)

/-- ITS FALSE NEIGHBOUR: 'it returns false'. Refute it at one input. -/
def readyPiecesWrong : ChangeSpec := { name := "readyPieces", fn := fun _ => fun
  | [d1, d2, d3] => { results := [.lit (.bool false)], args := [d1, d2, d3] }
  | _ => none }
def ReadyPiecesWrongFalsely : Prop := readyPiecesRow.holds Try.pinned (OpenSpec.ofChange readyPiecesWrong)

/-- 'kithlaw13.InboxOwn': WHATEVER THE INPUT: true; the input reads as it did. -/
def inboxOwnSpec : ChangeSpec := { name := "inboxOwn", fn := fun _ => fun
  | [d] => { results := [.lit (.bool true)], args := [d] }
  | _ => none }
def inboxOwnRow : OpenClaim := { program := "ytmjpdibjdgjhgaa", sum := "eacc187851811a7f2145d2e1c7f9fa238db06100b8f0bad9c21e949bb06e689c", func := "kith/kithlaw13.InboxOwn", spec := "inboxOwn", unfollowed := true, recurses := true, plainKeys := false, apart := false }
def InboxOwnSaid : Prop := inboxOwnRow.holds Try.pinned (OpenSpec.ofChange inboxOwnSpec)

/-- ITS FALSE NEIGHBOUR: 'it returns false'. Refute it at one input. -/
def inboxOwnWrong : ChangeSpec := { name := "inboxOwn", fn := fun _ => fun
  | [d] => { results := [.lit (.bool false)], args := [d] }
  | _ => none }
def InboxOwnWrongFalsely : Prop := inboxOwnRow.holds Try.pinned (OpenSpec.ofChange inboxOwnWrong)

/-- 'kithlaw12.ReadyGrows': WHATEVER THE INPUT: true; the input reads as it did. -/
def readyGrowsSpec : ChangeSpec := { name := "readyGrows", fn := fun _ => fun
  | [d1, d2, d3] => { results := [.lit (.bool true)], args := [d1, d2, d3] }
  | _ => none }
def readyGrowsRow : OpenClaim := { program := "ytmjpdibjdgjhgaa", sum := "eacc187851811a7f2145d2e1c7f9fa238db06100b8f0bad9c21e949bb06e689c", func := "kith/kithlaw12.ReadyGrows", spec := "readyGrows", unfollowed := true, recurses := true, plainKeys := false, apart := false }
def ReadyGrowsSaid : Prop := readyGrowsRow.holds Try.pinned (OpenSpec.ofChange readyGrowsSpec)

/-- ITS FALSE NEIGHBOUR: 'it returns false'. Refute it at one input. -/
def readyGrowsWrong : ChangeSpec := { name := "readyGrows", fn := fun _ => fun
  | [d1, d2, d3] => { results := [.lit (.bool false)], args := [d1, d2, d3] }
  | _ => none }
def ReadyGrowsWrongFalsely : Prop := readyGrowsRow.holds Try.pinned (OpenSpec.ofChange readyGrowsWrong)

/-- 'kithlaw13.InboxPieces': WHATEVER THE INPUT: true; the input reads as it did. -/
def inboxPiecesSpec : ChangeSpec := { name := "inboxPieces", fn := fun _ => fun
  | [d1, d2, d3] => { results := [.lit (.bool true)], args := [d1, d2, d3] }
  | _ => none }
def inboxPiecesRow : OpenClaim := { program := "ytmjpdibjdgjhgaa", sum := "eacc187851811a7f2145d2e1c7f9fa238db06100b8f0bad9c21e949bb06e689c", func := "kith/kithlaw13.InboxPieces", spec := "inboxPieces", unfollowed := true, recurses := true, plainKeys := false, apart := false }
def InboxPiecesSaid : Prop := inboxPiecesRow.holds Try.pinned (OpenSpec.ofChange inboxPiecesSpec)

/-- ITS FALSE NEIGHBOUR: 'it returns false'. Refute it at one input. -/
def inboxPiecesWrong : ChangeSpec := { name := "inboxPieces", fn := fun _ => fun
  | [d1, d2, d3] => { results := [.lit (.bool false)], args := [d1, d2, d3] }
  | _ => none }
def InboxPiecesWrongFalsely : Prop := inboxPiecesRow.holds Try.pinned (OpenSpec.ofChange inboxPiecesWrong)

/- THE SECOND FORM. 'bulk': how many values and letters a reading holds, each counted each time it is reached (what is shared counts as often as it is met; a slice's spare places count too). A statement '..UptoSaid' is the law's where the arguments, and the package variables that the reading takes, are together of bulk at most 1048576: NARROWER than '..Said'. Prove '..Said' where nothing that the law and all that it calls make is longer than what came in: it says more and counts as full. Else prove '..UptoSaid'. A law counts once. -/
mutual
def uptoBulk {H : Type} : DataW H → Nat
  | .lit (.string bytes) => bytes.length + 1
  | .lit _ => 1
  | .nil => 1
  | .ptr d => uptoBulk d + 1
  | .slice elems spare => uptoBulkAll elems + uptoBulkAll spare + 1
  | .agg parts => uptoBulkAll parts + 1
  | .iface _ d => uptoBulk d + 1
  | .map entries => uptoBulkEntries entries + 1
  | .held _ => 1
def uptoBulkAll {H : Type} : List (DataW H) → Nat
  | [] => 0
  | d :: r => uptoBulk d + uptoBulkAll r
def uptoBulkEntries {H : Type} : List (Lit × DataW H) → Nat
  | [] => 0
  | x :: r => uptoBulkEntry x + uptoBulkEntries r
def uptoBulkEntry {H : Type} : Lit × DataW H → Nat
  | (.string bytes, d) => bytes.length + uptoBulk d + 1
  | (_, d) => uptoBulk d + 1
 end
def uptoSmall : (H : Type) → List (DataW H) → Bool := fun _ ds => decide (uptoBulkAll ds ≤ 1048576)
def OpenSpec.upto (s : _root_.Go.ChangeSpec) : _root_.Go.OpenSpec := { _root_.Go.OpenSpec.ofChange s with cond := some uptoSmall }

/-- 'kithlaw12.ReadyAll', WHERE WHAT IT READS IS OF BULK AT MOST 1048576: true; the input reads as it did. -/
def readyAllUptoRow : OpenClaim := { program := "ytmjpdibjdgjhgaa", sum := "eacc187851811a7f2145d2e1c7f9fa238db06100b8f0bad9c21e949bb06e689c", func := "kith/kithlaw12.ReadyAll", spec := "readyAll", plainKeys := false, apart := false, narrowed := true }
def ReadyAllUptoSaid : Prop := readyAllUptoRow.holds Try.pinned (OpenSpec.upto readyAllSpec)

/-- 'kithlaw12.ReadyClosed', WHERE WHAT IT READS IS OF BULK AT MOST 1048576: true; the input reads as it did. -/
def readyClosedUptoRow : OpenClaim := { program := "ytmjpdibjdgjhgaa", sum := "eacc187851811a7f2145d2e1c7f9fa238db06100b8f0bad9c21e949bb06e689c", func := "kith/kithlaw12.ReadyClosed", spec := "readyClosed", plainKeys := false, apart := false, narrowed := true }
def ReadyClosedUptoSaid : Prop := readyClosedUptoRow.holds Try.pinned (OpenSpec.upto readyClosedSpec)

/-- 'kithlaw12.ReadyOne', WHERE WHAT IT READS IS OF BULK AT MOST 1048576: true; the input reads as it did. -/
def readyOneUptoRow : OpenClaim := { program := "ytmjpdibjdgjhgaa", sum := "eacc187851811a7f2145d2e1c7f9fa238db06100b8f0bad9c21e949bb06e689c", func := "kith/kithlaw12.ReadyOne", spec := "readyOne", plainKeys := false, apart := false, narrowed := true }
def ReadyOneUptoSaid : Prop := readyOneUptoRow.holds Try.pinned (OpenSpec.upto readyOneSpec)

/-- 'kithlaw13.InboxFull', WHERE WHAT IT READS IS OF BULK AT MOST 1048576: true; the input reads as it did. -/
def inboxFullUptoRow : OpenClaim := { program := "ytmjpdibjdgjhgaa", sum := "eacc187851811a7f2145d2e1c7f9fa238db06100b8f0bad9c21e949bb06e689c", func := "kith/kithlaw13.InboxFull", spec := "inboxFull", unfollowed := true, recurses := true, plainKeys := false, apart := false, narrowed := true }
def InboxFullUptoSaid : Prop := inboxFullUptoRow.holds Try.pinned (OpenSpec.upto inboxFullSpec)

/-- 'kithlaw13.InboxLoses', WHERE WHAT IT READS IS OF BULK AT MOST 1048576: true; the input reads as it did. -/
def inboxLosesUptoRow : OpenClaim := { program := "ytmjpdibjdgjhgaa", sum := "eacc187851811a7f2145d2e1c7f9fa238db06100b8f0bad9c21e949bb06e689c", func := "kith/kithlaw13.InboxLoses", spec := "inboxLoses", unfollowed := true, recurses := true, plainKeys := false, apart := false, narrowed := true }
def InboxLosesUptoSaid : Prop := inboxLosesUptoRow.holds Try.pinned (OpenSpec.upto inboxLosesSpec)

/-- 'kithlaw13.InboxPlays', WHERE WHAT IT READS IS OF BULK AT MOST 1048576: true; the input reads as it did. -/
def inboxPlaysUptoRow : OpenClaim := { program := "ytmjpdibjdgjhgaa", sum := "eacc187851811a7f2145d2e1c7f9fa238db06100b8f0bad9c21e949bb06e689c", func := "kith/kithlaw13.InboxPlays", spec := "inboxPlays", unfollowed := true, recurses := true, plainKeys := false, apart := false, narrowed := true }
def InboxPlaysUptoSaid : Prop := inboxPlaysUptoRow.holds Try.pinned (OpenSpec.upto inboxPlaysSpec)

/-- 'kithlaw12.ReadyPieces', WHERE WHAT IT READS IS OF BULK AT MOST 1048576: true; the input reads as it did. -/
def readyPiecesUptoRow : OpenClaim := { program := "ytmjpdibjdgjhgaa", sum := "eacc187851811a7f2145d2e1c7f9fa238db06100b8f0bad9c21e949bb06e689c", func := "kith/kithlaw12.ReadyPieces", spec := "readyPieces", plainKeys := false, apart := false, narrowed := true }
def ReadyPiecesUptoSaid : Prop := readyPiecesUptoRow.holds Try.pinned (OpenSpec.upto readyPiecesSpec)

/-- 'kithlaw13.InboxOwn', WHERE WHAT IT READS IS OF BULK AT MOST 1048576: true; the input reads as it did. -/
def inboxOwnUptoRow : OpenClaim := { program := "ytmjpdibjdgjhgaa", sum := "eacc187851811a7f2145d2e1c7f9fa238db06100b8f0bad9c21e949bb06e689c", func := "kith/kithlaw13.InboxOwn", spec := "inboxOwn", unfollowed := true, recurses := true, plainKeys := false, apart := false, narrowed := true }
def InboxOwnUptoSaid : Prop := inboxOwnUptoRow.holds Try.pinned (OpenSpec.upto inboxOwnSpec)

/-- 'kithlaw12.ReadyGrows', WHERE WHAT IT READS IS OF BULK AT MOST 1048576: true; the input reads as it did. -/
def readyGrowsUptoRow : OpenClaim := { program := "ytmjpdibjdgjhgaa", sum := "eacc187851811a7f2145d2e1c7f9fa238db06100b8f0bad9c21e949bb06e689c", func := "kith/kithlaw12.ReadyGrows", spec := "readyGrows", unfollowed := true, recurses := true, plainKeys := false, apart := false, narrowed := true }
def ReadyGrowsUptoSaid : Prop := readyGrowsUptoRow.holds Try.pinned (OpenSpec.upto readyGrowsSpec)

/-- 'kithlaw13.InboxPieces', WHERE WHAT IT READS IS OF BULK AT MOST 1048576: true; the input reads as it did. -/
def inboxPiecesUptoRow : OpenClaim := { program := "ytmjpdibjdgjhgaa", sum := "eacc187851811a7f2145d2e1c7f9fa238db06100b8f0bad9c21e949bb06e689c", func := "kith/kithlaw13.InboxPieces", spec := "inboxPieces", unfollowed := true, recurses := true, plainKeys := false, apart := false, narrowed := true }
def InboxPiecesUptoSaid : Prop := inboxPiecesUptoRow.holds Try.pinned (OpenSpec.upto inboxPiecesSpec)

end Rows
end Go.Proofs.Ytmjpdibjdgjhgaa
