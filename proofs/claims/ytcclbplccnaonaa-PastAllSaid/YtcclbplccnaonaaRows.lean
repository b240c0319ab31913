/-
  No cell of these rows narrows 'for every input' (looked for: loops, veiled, ifaces, maps, wideKeys, modest, calm, conditions, laid).
  DERIVED. THE GIVEN ROWS OF THIS SEAT. 7 by the template 'for every input the law returns true; each argument reads behind the call as it read before'; 0 by the template 'total and deterministic' (their statements: YtcclbplccnaonaaTotals.lean).
  GIVEN WITH THE SEED: the statements are not yours to turn. If you find one false, say at which input.
  Laid BY PROGRAM, IN A SANDBOX (cutbox-rows.mjs): the forced cells as the released guide's own fill.sh prints them over the translation 2a02c3dfbbad4c06… (all of the seat's roots in one cut). By AI agents, Wed Nov 11 2026. No macro, syntax, notation, axiom, sorry.
-/
import Derived.Test.YtcclbplccnaonaaChecked
import GoSem.Claim
import GoSem.ClaimJoined
import GoSem.ClaimMapViews
import Derived.JoinedTies
import Derived.KernelRfl
namespace Go.Proofs.Ytcclbplccnaonaa
/- THE CELL 'sum', in the pinned program and in every row, IS THE sha256 OF THE DUMP (.gsa) THAT YtcclbplccnaonaaProg.lean LOADS. Nothing in Lean hashes anything: it is a label: what it is worth is what the hold of that sum in a sandbox is worth. -/
noncomputable def Try.pinned : Pinned := { name := "ytcclbplccnaonaa", sum := "2a02c3dfbbad4c062a2d05262b1c921b531eb87156a5ae672cbcb02eb51a5fc0", checked := Try.checked }
namespace Rows
def none {H : Type} : Left H := { results := [], args := [] }

/-- 'kithlaw08.PastSpoilt': WHATEVER THE INPUT: true; the input reads as it did. -/
def pastSpoiltSpec : ChangeSpec := { name := "pastSpoilt", fn := fun _ => fun
  | [d1, d2, d3] => { results := [.lit (.bool true)], args := [d1, d2, d3] }
  | _ => none }
def pastSpoiltRow : OpenClaim := { program := "ytcclbplccnaonaa", sum := "2a02c3dfbbad4c062a2d05262b1c921b531eb87156a5ae672cbcb02eb51a5fc0", func := "kith/kithlaw08.PastSpoilt", spec := "pastSpoilt", plainKeys := false, apart := false }
def PastSpoiltSaid : Prop := pastSpoiltRow.holds Try.pinned (OpenSpec.ofChange pastSpoiltSpec)

/-- ITS FALSE NEIGHBOUR: 'it returns false'. Refute it at one input. -/
def pastSpoiltWrong : ChangeSpec := { name := "pastSpoilt", fn := fun _ => fun
  | [d1, d2, d3] => { results := [.lit (.bool false)], args := [d1, d2, d3] }
  | _ => none }
def PastSpoiltWrongFalsely : Prop := pastSpoiltRow.holds Try.pinned (OpenSpec.ofChange pastSpoiltWrong)

/-- 'kithlaw08.PastPrefix': WHATEVER THE INPUT: true; the input reads as it did. -/
def pastPrefixSpec : ChangeSpec := { name := "pastPrefix", fn := fun _ => fun
  | [d1, d2] => { results := [.lit (.bool true)], args := [d1, d2] }
  | _ => none }
def pastPrefixRow : OpenClaim := { program := "ytcclbplccnaonaa", sum := "2a02c3dfbbad4c062a2d05262b1c921b531eb87156a5ae672cbcb02eb51a5fc0", func := "kith/kithlaw08.PastPrefix", spec := "pastPrefix", plainKeys := false, apart := false }
def PastPrefixSaid : Prop := pastPrefixRow.holds Try.pinned (OpenSpec.ofChange pastPrefixSpec)

/-- ITS FALSE NEIGHBOUR: 'it returns false'. Refute it at one input. -/
def pastPrefixWrong : ChangeSpec := { name := "pastPrefix", fn := fun _ => fun
  | [d1, d2] => { results := [.lit (.bool false)], args := [d1, d2] }
  | _ => none }
def PastPrefixWrongFalsely : Prop := pastPrefixRow.holds Try.pinned (OpenSpec.ofChange pastPrefixWrong)

/-- 'kithlaw08.PastOrder': WHATEVER THE INPUT: true; the input reads as it did. -/
def pastOrderSpec : ChangeSpec := { name := "pastOrder", fn := fun _ => fun
  | [d] => { results := [.lit (.bool true)], args := [d] }
  | _ => none }
def pastOrderRow : OpenClaim := { program := "ytcclbplccnaonaa", sum := "2a02c3dfbbad4c062a2d05262b1c921b531eb87156a5ae672cbcb02eb51a5fc0", func := "kith/kithlaw08.PastOrder", spec := "pastOrder", plainKeys := false, apart := false }
def PastOrderSaid : Prop := pastOrderRow.holds Try.pinned (OpenSpec.ofChange pastOrderSpec)

/-- ITS FALSE NEIGHBOUR: 'it returns false'. Refute it at one input. -/
def pastOrderWrong : ChangeSpec := { name := "pastOrder", fn := fun _ => fun
  | [d] => { results := [.lit (.bool false)], args := [d] }
  | _ => none }
def PastOrderWrongFalsely : Prop := pastOrderRow.holds Try.pinned (OpenSpec.ofChange pastOrderWrong)

/-- 'kithlaw08.PastMore': WHATEVER THE INPUT: true; the input reads as it did. -/
def pastMoreSpec : ChangeSpec := { name := "pastMore", fn := fun _ => fun
  | [d1, d2] => { results := [.lit (.bool true)], args := [d1, d2] }
  | _ => none }
def pastMoreRow : OpenClaim := { program := "ytcclbplccnaonaa", sum := "2a02c3dfbbad4c062a2d05262b1c921b531eb87156a5ae672cbcb02eb51a5fc0", func := "kith/kithlaw08.PastMore", spec := "pastMore", plainKeys := false, apart := false }
def PastMoreSaid : Prop := pastMoreRow.holds Try.pinned (OpenSpec.ofChange pastMoreSpec)

/-- ITS FALSE NEIGHBOUR: 'it returns false'. Refute it at one input. -/
def pastMoreWrong : ChangeSpec := { name := "pastMore", fn := fun _ => fun
  | [d1, d2] => { results := [.lit (.bool false)], args := [d1, d2] }
  | _ => none }
def PastMoreWrongFalsely : Prop := pastMoreRow.holds Try.pinned (OpenSpec.ofChange pastMoreWrong)

/-- 'kithlaw08.PastSorts': WHATEVER THE INPUT: true; the input reads as it did. -/
def pastSortsSpec : ChangeSpec := { name := "pastSorts", fn := fun _ => fun
  | [d] => { results := [.lit (.bool true)], args := [d] }
  | _ => none }
def pastSortsRow : OpenClaim := { program := "ytcclbplccnaonaa", sum := "2a02c3dfbbad4c062a2d05262b1c921b531eb87156a5ae672cbcb02eb51a5fc0", func := "kith/kithlaw08.PastSorts", spec := "pastSorts", unfollowed := true, recurses := true, plainKeys := false, apart := false }
def PastSortsSaid : Prop := pastSortsRow.holds Try.pinned (OpenSpec.ofChange pastSortsSpec)

/-- ITS FALSE NEIGHBOUR: 'it returns false'. Refute it at one input. -/
def pastSortsWrong : ChangeSpec := { name := "pastSorts", fn := fun _ => fun
  | [d] => { results := [.lit (.bool false)], args := [d] }
  | _ => none }
def PastSortsWrongFalsely : Prop := pastSortsRow.holds Try.pinned (OpenSpec.ofChange pastSortsWrong)

/-- 'kithlaw08.PastAll': WHATEVER THE INPUT: true; the input reads as it did. -/
def pastAllSpec : ChangeSpec := { name := "pastAll", fn := fun _ => fun
  | [d1, d2] => { results := [.lit (.bool true)], args := [d1, d2] }
  | _ => none }
def pastAllRow : OpenClaim := { program := "ytcclbplccnaonaa", sum := "2a02c3dfbbad4c062a2d05262b1c921b531eb87156a5ae672cbcb02eb51a5fc0", func := "kith/kithlaw08.PastAll", spec := "pastAll", unfollowed := true, recurses := true, plainKeys := false, apart := false }
def PastAllSaid : Prop := pastAllRow.holds Try.pinned (OpenSpec.ofChange pastAllSpec)

/-- ITS FALSE NEIGHBOUR: 'it returns false'. Refute it at one input. -/
def pastAllWrong : ChangeSpec := { name := "pastAll", fn := fun _ => fun
  | [d1, d2] => { results := [.lit (.bool false)], args := [d1, d2] }
  | _ => none }
def PastAllWrongFalsely : Prop := pastAllRow.holds Try.pinned (OpenSpec.ofChange pastAllWrong)

/-- 'kithlaw08.PastMade': WHATEVER THE INPUT: true; the input reads as it did. -/
def pastMadeSpec : ChangeSpec := { name := "pastMade", fn := fun _ => fun
  | [d1, d2] => { results := [.lit (.bool true)], args := [d1, d2] }
  | _ => none }
def pastMadeRow : OpenClaim := { program := "ytcclbplccnaonaa", sum := "2a02c3dfbbad4c062a2d05262b1c921b531eb87156a5ae672cbcb02eb51a5fc0", func := "kith/kithlaw08.PastMade", spec := "pastMade", unfollowed := true, recurses := true, plainKeys := false, apart := false }
def PastMadeSaid : Prop := pastMadeRow.holds Try.pinned (OpenSpec.ofChange pastMadeSpec)

/-- ITS FALSE NEIGHBOUR: 'it returns false'. Refute it at one input. -/
def pastMadeWrong : ChangeSpec := { name := "pastMade", fn := fun _ => fun
  | [d1, d2] => { results := [.lit (.bool false)], args := [d1, d2] }
  | _ => none }
def PastMadeWrongFalsely : Prop := pastMadeRow.holds Try.pinned (OpenSpec.ofChange pastMadeWrong)

/- THE SECOND FORM. 'bulk': how many values and letters a reading holds, each counted each time it is reached (what is shared counts as often as it is met; a slice's spare places count too). A statement '..UptoSaid' is the law's where the arguments, and the package variables that the reading takes, are together of bulk at most 1048576: NARROWER than '..Said'. Prove '..Said' where nothing that the law and all that it calls make is longer than what came in: it says more and counts as full. Else prove '..UptoSaid'. A law counts once. -/
mutual
def uptoBulk {H : Type} : DataW H → Nat
  | .lit (.string bytes) => bytes.length + 1
  | .lit _ => 1
  | .nil => 1
  | .ptr d => uptoBulk d + 1
  | .slice elems spare => uptoBulkAll elems + uptoBulkAll spare + 1
  | .agg parts => uptoBulkAll parts + 1
  | .iface _ d => uptoBulk d + 1
  | .map entries => uptoBulkEntries entries + 1
  | .held _ => 1
def uptoBulkAll {H : Type} : List (DataW H) → Nat
  | [] => 0
  | d :: r => uptoBulk d + uptoBulkAll r
def uptoBulkEntries {H : Type} : List (Lit × DataW H) → Nat
  | [] => 0
  | x :: r => uptoBulkEntry x + uptoBulkEntries r
def uptoBulkEntry {H : Type} : Lit × DataW H → Nat
  | (.string bytes, d) => bytes.length + uptoBulk d + 1
  | (_, d) => uptoBulk d + 1
 end
def uptoSmall : (H : Type) → List (DataW H) → Bool := fun _ ds => decide (uptoBulkAll ds ≤ 1048576)
def OpenSpec.upto (s : _root_.Go.ChangeSpec) : _root_.Go.OpenSpec := { _root_.Go.OpenSpec.ofChange s with cond := some uptoSmall }

/-- 'kithlaw08.PastSpoilt', WHERE WHAT IT READS IS OF BULK AT MOST 1048576: true; the input reads as it did. -/
def pastSpoiltUptoRow : OpenClaim := { program := "ytcclbplccnaonaa", sum := "2a02c3dfbbad4c062a2d05262b1c921b531eb87156a5ae672cbcb02eb51a5fc0", func := "kith/kithlaw08.PastSpoilt", spec := "pastSpoilt", plainKeys := false, apart := false, narrowed := true }
def PastSpoiltUptoSaid : Prop := pastSpoiltUptoRow.holds Try.pinned (OpenSpec.upto pastSpoiltSpec)

/-- 'kithlaw08.PastPrefix', WHERE WHAT IT READS IS OF BULK AT MOST 1048576: true; the input reads as it did. -/
def pastPrefixUptoRow : OpenClaim := { program := "ytcclbplccnaonaa", sum := "2a02c3dfbbad4c062a2d05262b1c921b531eb87156a5ae672cbcb02eb51a5fc0", func := "kith/kithlaw08.PastPrefix", spec := "pastPrefix", plainKeys := false, apart := false, narrowed := true }
def PastPrefixUptoSaid : Prop := pastPrefixUptoRow.holds Try.pinned (OpenSpec.upto pastPrefixSpec)

/-- 'kithlaw08.PastOrder', WHERE WHAT IT READS IS OF BULK AT MOST 1048576: true; the input reads as it did. -/
def pastOrderUptoRow : OpenClaim := { program := "ytcclbplccnaonaa", sum := "2a02c3dfbbad4c062a2d05262b1c921b531eb87156a5ae672cbcb02eb51a5fc0", func := "kith/kithlaw08.PastOrder", spec := "pastOrder", plainKeys := false, apart := false, narrowed := true }
def PastOrderUptoSaid : Prop := pastOrderUptoRow.holds Try.pinned (OpenSpec.upto pastOrderSpec)

/-- 'kithlaw08.PastMore', WHERE WHAT IT READS IS OF BULK AT MOST 1048576: true; the input reads as it did. -/
def pastMoreUptoRow : OpenClaim := { program := "ytcclbplccnaonaa", sum := "2a02c3dfbbad4c062a2d05262b1c921b531eb87156a5ae672cbcb02eb51a5fc0", func := "kith/kithlaw08.PastMore", spec := "pastMore", plainKeys := false, apart := false, narrowed := true }
def PastMoreUptoSaid : Prop := pastMoreUptoRow.holds Try.pinned (OpenSpec.upto pastMoreSpec)

/-- 'kithlaw08.PastSorts', WHERE WHAT IT READS IS OF BULK AT MOST 1048576: true; the input reads as it did. -/
def pastSortsUptoRow : OpenClaim := { program := "ytcclbplccnaonaa", sum := "2a02c3dfbbad4c062a2d05262b1c921b531eb87156a5ae672cbcb02eb51a5fc0", func := "kith/kithlaw08.PastSorts", spec := "pastSorts", unfollowed := true, recurses := true, plainKeys := false, apart := false, narrowed := true }
def PastSortsUptoSaid : Prop := pastSortsUptoRow.holds Try.pinned (OpenSpec.upto pastSortsSpec)

/-- 'kithlaw08.PastAll', WHERE WHAT IT READS IS OF BULK AT MOST 1048576: true; the input reads as it did. -/
def pastAllUptoRow : OpenClaim := { program := "ytcclbplccnaonaa", sum := "2a02c3dfbbad4c062a2d05262b1c921b531eb87156a5ae672cbcb02eb51a5fc0", func := "kith/kithlaw08.PastAll", spec := "pastAll", unfollowed := true, recurses := true, plainKeys := false, apart := false, narrowed := true }
def PastAllUptoSaid : Prop := pastAllUptoRow.holds Try.pinned (OpenSpec.upto pastAllSpec)

/-- 'kithlaw08.PastMade', WHERE WHAT IT READS IS OF BULK AT MOST 1048576: true; the input reads as it did. -/
def pastMadeUptoRow : OpenClaim := { program := "ytcclbplccnaonaa", sum := "2a02c3dfbbad4c062a2d05262b1c921b531eb87156a5ae672cbcb02eb51a5fc0", func := "kith/kithlaw08.PastMade", spec := "pastMade", unfollowed := true, recurses := true, plainKeys := false, apart := false, narrowed := true }
def PastMadeUptoSaid : Prop := pastMadeUptoRow.holds Try.pinned (OpenSpec.upto pastMadeSpec)

end Rows
end Go.Proofs.Ytcclbplccnaonaa
