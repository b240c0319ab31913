/-
  No cell of these rows narrows 'for every input' (looked for: loops, veiled, ifaces, maps, wideKeys, modest, calm, conditions, laid).
  DERIVED. THE GIVEN ROWS OF THIS SEAT. 5 by the template 'for every input the law returns true; each argument reads behind the call as it read before'; 0 by the template 'total and deterministic' (their statements: YtkcpgdkchglhhaaTotals.lean).
  GIVEN WITH THE SEED: the statements are not yours to turn. If you find one false, say at which input.
  Laid BY PROGRAM, IN A SANDBOX (cutbox-rows.mjs): the forced cells as the released guide's own fill.sh prints them over the translation 9c90428eab052b0d… (all of the seat's roots in one cut). By AI agents, Wed Nov 11 2026. No macro, syntax, notation, axiom, sorry.
-/
import Derived.Test.YtkcpgdkchglhhaaChecked
import GoSem.Claim
import GoSem.ClaimJoined
import GoSem.ClaimMapViews
import Derived.JoinedTies
import Derived.KernelRfl
namespace Go.Proofs.Ytkcpgdkchglhhaa
/- THE CELL 'sum', in the pinned program and in every row, IS THE sha256 OF THE DUMP (.gsa) THAT YtkcpgdkchglhhaaProg.lean LOADS. Nothing in Lean hashes anything: it is a label: what it is worth is what the hold of that sum in a sandbox is worth. -/
noncomputable def Try.pinned : Pinned := { name := "ytkcpgdkchglhhaa", sum := "9c90428eab052b0dd0a6ccbaf358c97f6898dc43d1f553f0046d29effc387516", checked := Try.checked }
namespace Rows
def none {H : Type} : Left H := { results := [], args := [] }

/-- 'kithlaw16.PostPlays': WHATEVER THE INPUT: true; the input reads as it did. -/
def postPlaysSpec : ChangeSpec := { name := "postPlays", fn := fun _ => fun
  | [d1, d2] => { results := [.lit (.bool true)], args := [d1, d2] }
  | _ => none }
def postPlaysRow : OpenClaim := { program := "ytkcpgdkchglhhaa", sum := "9c90428eab052b0dd0a6ccbaf358c97f6898dc43d1f553f0046d29effc387516", func := "kith/kithlaw16.PostPlays", spec := "postPlays", unfollowed := true, recurses := true, apart := false }
def PostPlaysSaid : Prop := postPlaysRow.holds Try.pinned (OpenSpec.ofChange postPlaysSpec)

/-- ITS FALSE NEIGHBOUR: 'it returns false'. Refute it at one input. -/
def postPlaysWrong : ChangeSpec := { name := "postPlays", fn := fun _ => fun
  | [d1, d2] => { results := [.lit (.bool false)], args := [d1, d2] }
  | _ => none }
def PostPlaysWrongFalsely : Prop := postPlaysRow.holds Try.pinned (OpenSpec.ofChange postPlaysWrong)

/-- 'kithlaw16.PostKeeps': WHATEVER THE INPUT: true; the input reads as it did. -/
def postKeepsSpec : ChangeSpec := { name := "postKeeps", fn := fun _ => fun
  | [d1, d2, d3] => { results := [.lit (.bool true)], args := [d1, d2, d3] }
  | _ => none }
def postKeepsRow : OpenClaim := { program := "ytkcpgdkchglhhaa", sum := "9c90428eab052b0dd0a6ccbaf358c97f6898dc43d1f553f0046d29effc387516", func := "kith/kithlaw16.PostKeeps", spec := "postKeeps", unfollowed := true, recurses := true, apart := false }
def PostKeepsSaid : Prop := postKeepsRow.holds Try.pinned (OpenSpec.ofChange postKeepsSpec)

/-- ITS FALSE NEIGHBOUR: 'it returns false'. Refute it at one input. -/
def postKeepsWrong : ChangeSpec := { name := "postKeeps", fn := fun _ => fun
  | [d1, d2, d3] => { results := [.lit (.bool false)], args := [d1, d2, d3] }
  | _ => none }
def PostKeepsWrongFalsely : Prop := postKeepsRow.holds Try.pinned (OpenSpec.ofChange postKeepsWrong)

/-- 'kithlaw16.PostAgain': WHATEVER THE INPUT: true; the input reads as it did. -/
def postAgainSpec : ChangeSpec := { name := "postAgain", fn := fun _ => fun
  | [d1, d2] => { results := [.lit (.bool true)], args := [d1, d2] }
  | _ => none }
def postAgainRow : OpenClaim := { program := "ytkcpgdkchglhhaa", sum := "9c90428eab052b0dd0a6ccbaf358c97f6898dc43d1f553f0046d29effc387516", func := "kith/kithlaw16.PostAgain", spec := "postAgain", unfollowed := true, recurses := true, apart := false }
def PostAgainSaid : Prop := postAgainRow.holds Try.pinned (OpenSpec.ofChange postAgainSpec)

/-- ITS FALSE NEIGHBOUR: 'it returns false'. Refute it at one input. -/
def postAgainWrong : ChangeSpec := { name := "postAgain", fn := fun _ => fun
  | [d1, d2] => { results := [.lit (.bool false)], args := [d1, d2] }
  | _ => none }
def PostAgainWrongFalsely : Prop := postAgainRow.holds Try.pinned (OpenSpec.ofChange postAgainWrong)

/-- 'kithlaw16.PostApart': WHATEVER THE INPUT: true; the input reads as it did. -/
def postApartSpec : ChangeSpec := { name := "postApart", fn := fun _ => fun
  | [d1, d2] => { results := [.lit (.bool true)], args := [d1, d2] }
  | _ => none }
def postApartRow : OpenClaim := { program := "ytkcpgdkchglhhaa", sum := "9c90428eab052b0dd0a6ccbaf358c97f6898dc43d1f553f0046d29effc387516", func := "kith/kithlaw16.PostApart", spec := "postApart", unfollowed := true, recurses := true, apart := false }
def PostApartSaid : Prop := postApartRow.holds Try.pinned (OpenSpec.ofChange postApartSpec)

/-- ITS FALSE NEIGHBOUR: 'it returns false'. Refute it at one input. -/
def postApartWrong : ChangeSpec := { name := "postApart", fn := fun _ => fun
  | [d1, d2] => { results := [.lit (.bool false)], args := [d1, d2] }
  | _ => none }
def PostApartWrongFalsely : Prop := postApartRow.holds Try.pinned (OpenSpec.ofChange postApartWrong)

/-- 'kithlaw16.PostWaits': WHATEVER THE INPUT: true; the input reads as it did. -/
def postWaitsSpec : ChangeSpec := { name := "postWaits", fn := fun _ => fun
  | [d1, d2, d3] => { results := [.lit (.bool true)], args := [d1, d2, d3] }
  | _ => none }
def postWaitsRow : OpenClaim := { program := "ytkcpgdkchglhhaa", sum := "9c90428eab052b0dd0a6ccbaf358c97f6898dc43d1f553f0046d29effc387516", func := "kith/kithlaw16.PostWaits", spec := "postWaits", unfollowed := true, recurses := true, apart := false }
def PostWaitsSaid : Prop := postWaitsRow.holds Try.pinned (OpenSpec.ofChange postWaitsSpec)

/-- ITS FALSE NEIGHBOUR: 'it returns false'. Refute it at one input. -/
def postWaitsWrong : ChangeSpec := { name := "postWaits", fn := fun _ => fun
  | [d1, d2, d3] => { results := [.lit (.bool false)], args := [d1, d2, d3] }
  | _ => none }
def PostWaitsWrongFalsely : Prop := postWaitsRow.holds Try.pinned (OpenSpec.ofChange postWaitsWrong)

/- THE SECOND FORM. 'bulk': how many values and letters a reading holds, each counted each time it is reached (what is shared counts as often as it is met; a slice's spare places count too). A statement '..UptoSaid' is the law's where the arguments, and the package variables that the reading takes, are together of bulk at most 1048576: NARROWER than '..Said'. Prove '..Said' where nothing that the law and all that it calls make is longer than what came in: it says more and counts as full. Else prove '..UptoSaid'. A law counts once. -/
mutual
def uptoBulk {H : Type} : DataW H → Nat
  | .lit (.string bytes) => bytes.length + 1
  | .lit _ => 1
  | .nil => 1
  | .ptr d => uptoBulk d + 1
  | .slice elems spare => uptoBulkAll elems + uptoBulkAll spare + 1
  | .agg parts => uptoBulkAll parts + 1
  | .iface _ d => uptoBulk d + 1
  | .map entries => uptoBulkEntries entries + 1
  | .held _ => 1
def uptoBulkAll {H : Type} : List (DataW H) → Nat
  | [] => 0
  | d :: r => uptoBulk d + uptoBulkAll r
def uptoBulkEntries {H : Type} : List (Lit × DataW H) → Nat
  | [] => 0
  | x :: r => uptoBulkEntry x + uptoBulkEntries r
def uptoBulkEntry {H : Type} : Lit × DataW H → Nat
  | (.string bytes, d) => bytes.length + uptoBulk d + 1
  | (_, d) => uptoBulk d + 1
 end
def uptoSmall : (H : Type) → List (DataW H) → Bool := fun _ ds => decide (uptoBulkAll ds ≤ 1048576)
def OpenSpec.upto (s : _root_.Go.ChangeSpec) : _root_.Go.OpenSpec := { _root_.Go.OpenSpec.ofChange s with cond := some uptoSmall }

/-- 'kithlaw16.PostPlays', WHERE WHAT IT READS IS OF BULK AT MOST 1048576: true; the input reads as it did. -/
def postPlaysUptoRow : OpenClaim := { program := "ytkcpgdkchglhhaa", sum := "9c90428eab052b0dd0a6ccbaf358c97f6898dc43d1f553f0046d29effc387516", func := "kith/kithlaw16.PostPlays", spec := "postPlays", unfollowed := true, recurses := true, apart := false, narrowed := true }
def PostPlaysUptoSaid : Prop := postPlaysUptoRow.holds Try.pinned (OpenSpec.upto postPlaysSpec)

/-- 'kithlaw16.PostKeeps', WHERE WHAT IT READS IS OF BULK AT MOST 1048576: true; the input reads as it did. -/
def postKeepsUptoRow : OpenClaim := { program := "ytkcpgdkchglhhaa", sum := "9c90428eab052b0dd0a6ccbaf358c97f6898dc43d1f553f0046d29effc387516", func := "kith/kithlaw16.PostKeeps", spec := "postKeeps", unfollowed := true, recurses := true, apart := false, narrowed := true }
def PostKeepsUptoSaid : Prop := postKeepsUptoRow.holds Try.pinned (OpenSpec.upto postKeepsSpec)

/-- 'kithlaw16.PostAgain', WHERE WHAT IT READS IS OF BULK AT MOST 1048576: true; the input reads as it did. -/
def postAgainUptoRow : OpenClaim := { program := "ytkcpgdkchglhhaa", sum := "9c90428eab052b0dd0a6ccbaf358c97f6898dc43d1f553f0046d29effc387516", func := "kith/kithlaw16.PostAgain", spec := "postAgain", unfollowed := true, recurses := true, apart := false, narrowed := true }
def PostAgainUptoSaid : Prop := postAgainUptoRow.holds Try.pinned (OpenSpec.upto postAgainSpec)

/-- 'kithlaw16.PostApart', WHERE WHAT IT READS IS OF BULK AT MOST 1048576: true; the input reads as it did. -/
def postApartUptoRow : OpenClaim := { program := "ytkcpgdkchglhhaa", sum := "9c90428eab052b0dd0a6ccbaf358c97f6898dc43d1f553f0046d29effc387516", func := "kith/kithlaw16.PostApart", spec := "postApart", unfollowed := true, recurses := true, apart := false, narrowed := true }
def PostApartUptoSaid : Prop := postApartUptoRow.holds Try.pinned (OpenSpec.upto postApartSpec)

/-- 'kithlaw16.PostWaits', WHERE WHAT IT READS IS OF BULK AT MOST 1048576: true; the input reads as it did. -/
def postWaitsUptoRow : OpenClaim := { program := "ytkcpgdkchglhhaa", sum := "9c90428eab052b0dd0a6ccbaf358c97f6898dc43d1f553f0046d29effc387516", func := "kith/kithlaw16.PostWaits", spec := "postWaits", unfollowed := true, recurses := true, apart := false, narrowed := true }
def PostWaitsUptoSaid : Prop := postWaitsUptoRow.holds Try.pinned (OpenSpec.upto postWaitsSpec)

end Rows
end Go.Proofs.Ytkcpgdkchglhhaa
