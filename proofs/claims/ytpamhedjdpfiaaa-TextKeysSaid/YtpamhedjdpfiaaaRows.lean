/-
  No cell of these rows narrows 'for every input' (looked for: loops, veiled, ifaces, maps, wideKeys, modest, calm, conditions, laid).
  DERIVED. THE GIVEN ROWS OF THIS SEAT. 11 by the template 'for every input the law returns true; each argument reads behind the call as it read before'; 0 by the template 'total and deterministic' (their statements: YtpamhedjdpfiaaaTotals.lean).
  GIVEN WITH THE SEED: the statements are not yours to turn. If you find one false, say at which input.
  Laid BY PROGRAM, IN A SANDBOX (cutbox-rows.mjs): the forced cells as the released guide's own fill.sh prints them over the translation cb040d848327e048… (all of the seat's roots in one cut). By AI agents, Wed Nov 11 2026. No macro, syntax, notation, axiom, sorry.
-/
import Derived.Test.YtpamhedjdpfiaaaChecked
import GoSem.Claim
import GoSem.ClaimJoined
import GoSem.ClaimMapViews
import Derived.JoinedTies
import Derived.KernelRfl
namespace Go.Proofs.Ytpamhedjdpfiaaa
/- THE CELL 'sum', in the pinned program and in every row, IS THE sha256 OF THE DUMP (.gsa) THAT YtpamhedjdpfiaaaProg.lean LOADS. Nothing in Lean hashes anything: it is a label: what it is worth is what the hold of that sum in a sandbox is worth. -/
noncomputable def Try.pinned : Pinned := { name := "ytpamhedjdpfiaaa", sum := "cb040d848327e04810062d0570e9cc969babe44362705a94882b405863a46927", checked := Try.checked }
namespace Rows
def none {H : Type} : Left H := { results := [], args := [] }

/-- 'kithlaw03.ClockJoins': WHATEVER THE INPUT: true; the input reads as it did. -/
def clockJoinsSpec : ChangeSpec := { name := "clockJoins", fn := fun _ => fun
  | [d1, d2, d3] => { results := [.lit (.bool true)], args := [d1, d2, d3] }
  | _ => none }
def clockJoinsRow : OpenClaim := { program := "ytpamhedjdpfiaaa", sum := "cb040d848327e04810062d0570e9cc969babe44362705a94882b405863a46927", func := "kith/kithlaw03.ClockJoins", spec := "clockJoins", apart := false }
def ClockJoinsSaid : Prop := clockJoinsRow.holds Try.pinned (OpenSpec.ofChange clockJoinsSpec)

/-- ITS FALSE NEIGHBOUR: 'it returns false'. Refute it at one input. -/
def clockJoinsWrong : ChangeSpec := { name := "clockJoins", fn := fun _ => fun
  | [d1, d2, d3] => { results := [.lit (.bool false)], args := [d1, d2, d3] }
  | _ => none }
def ClockJoinsWrongFalsely : Prop := clockJoinsRow.holds Try.pinned (OpenSpec.ofChange clockJoinsWrong)

/-- 'kithlaw03.ClockHas': WHATEVER THE INPUT: true; the input reads as it did. -/
def clockHasSpec : ChangeSpec := { name := "clockHas", fn := fun _ => fun
  | [d1, d2, d3] => { results := [.lit (.bool true)], args := [d1, d2, d3] }
  | _ => none }
def clockHasRow : OpenClaim := { program := "ytpamhedjdpfiaaa", sum := "cb040d848327e04810062d0570e9cc969babe44362705a94882b405863a46927", func := "kith/kithlaw03.ClockHas", spec := "clockHas", apart := false }
def ClockHasSaid : Prop := clockHasRow.holds Try.pinned (OpenSpec.ofChange clockHasSpec)

/-- ITS FALSE NEIGHBOUR: 'it returns false'. Refute it at one input. -/
def clockHasWrong : ChangeSpec := { name := "clockHas", fn := fun _ => fun
  | [d1, d2, d3] => { results := [.lit (.bool false)], args := [d1, d2, d3] }
  | _ => none }
def ClockHasWrongFalsely : Prop := clockHasRow.holds Try.pinned (OpenSpec.ofChange clockHasWrong)

/-- 'kithlaw05.TextKeys': WHATEVER THE INPUT: true; the input reads as it did. -/
def textKeysSpec : ChangeSpec := { name := "textKeys", fn := fun _ => fun
  | [d1, d2, d3] => { results := [.lit (.bool true)], args := [d1, d2, d3] }
  | _ => none }
def textKeysRow : OpenClaim := { program := "ytpamhedjdpfiaaa", sum := "cb040d848327e04810062d0570e9cc969babe44362705a94882b405863a46927", func := "kith/kithlaw05.TextKeys", spec := "textKeys", apart := false }
def TextKeysSaid : Prop := textKeysRow.holds Try.pinned (OpenSpec.ofChange textKeysSpec)

/-- ITS FALSE NEIGHBOUR: 'it returns false'. Refute it at one input. -/
def textKeysWrong : ChangeSpec := { name := "textKeys", fn := fun _ => fun
  | [d1, d2, d3] => { results := [.lit (.bool false)], args := [d1, d2, d3] }
  | _ => none }
def TextKeysWrongFalsely : Prop := textKeysRow.holds Try.pinned (OpenSpec.ofChange textKeysWrong)

/-- 'kithlaw05.TextValues': WHATEVER THE INPUT: true; the input reads as it did. -/
def textValuesSpec : ChangeSpec := { name := "textValues", fn := fun _ => fun
  | [d] => { results := [.lit (.bool true)], args := [d] }
  | _ => none }
def textValuesRow : OpenClaim := { program := "ytpamhedjdpfiaaa", sum := "cb040d848327e04810062d0570e9cc969babe44362705a94882b405863a46927", func := "kith/kithlaw05.TextValues", spec := "textValues", apart := false }
def TextValuesSaid : Prop := textValuesRow.holds Try.pinned (OpenSpec.ofChange textValuesSpec)

/-- ITS FALSE NEIGHBOUR: 'it returns false'. Refute it at one input. -/
def textValuesWrong : ChangeSpec := { name := "textValues", fn := fun _ => fun
  | [d] => { results := [.lit (.bool false)], args := [d] }
  | _ => none }
def TextValuesWrongFalsely : Prop := textValuesRow.holds Try.pinned (OpenSpec.ofChange textValuesWrong)

/-- 'kithlaw03.ClockNone': WHATEVER THE INPUT: true; the input reads as it did. -/
def clockNoneSpec : ChangeSpec := { name := "clockNone", fn := fun _ => fun
  | [d1, d2, d3] => { results := [.lit (.bool true)], args := [d1, d2, d3] }
  | _ => none }
def clockNoneRow : OpenClaim := { program := "ytpamhedjdpfiaaa", sum := "cb040d848327e04810062d0570e9cc969babe44362705a94882b405863a46927", func := "kith/kithlaw03.ClockNone", spec := "clockNone", apart := false }
def ClockNoneSaid : Prop := clockNoneRow.holds Try.pinned (OpenSpec.ofChange clockNoneSpec)

/-- ITS FALSE NEIGHBOUR: 'it returns false'. Refute it at one input. -/
def clockNoneWrong : ChangeSpec := { name := "clockNone", fn := fun _ => fun
  | [d1, d2, d3] => { results := [.lit (.bool false)], args := [d1, d2, d3] }
  | _ => none }
def ClockNoneWrongFalsely : Prop := clockNoneRow.holds Try.pinned (OpenSpec.ofChange clockNoneWrong)

/-- 'kithlaw03.ClockAll': WHATEVER THE INPUT: true; the input reads as it did. -/
def clockAllSpec : ChangeSpec := { name := "clockAll", fn := fun _ => fun
  | [d1, d2, d3] => { results := [.lit (.bool true)], args := [d1, d2, d3] }
  | _ => none }
def clockAllRow : OpenClaim := { program := "ytpamhedjdpfiaaa", sum := "cb040d848327e04810062d0570e9cc969babe44362705a94882b405863a46927", func := "kith/kithlaw03.ClockAll", spec := "clockAll", apart := false }
def ClockAllSaid : Prop := clockAllRow.holds Try.pinned (OpenSpec.ofChange clockAllSpec)

/-- ITS FALSE NEIGHBOUR: 'it returns false'. Refute it at one input. -/
def clockAllWrong : ChangeSpec := { name := "clockAll", fn := fun _ => fun
  | [d1, d2, d3] => { results := [.lit (.bool false)], args := [d1, d2, d3] }
  | _ => none }
def ClockAllWrongFalsely : Prop := clockAllRow.holds Try.pinned (OpenSpec.ofChange clockAllWrong)

/-- 'kithlaw03.ClockNext': WHATEVER THE INPUT: true; the input reads as it did. -/
def clockNextSpec : ChangeSpec := { name := "clockNext", fn := fun _ => fun
  | [d1, d2, d3] => { results := [.lit (.bool true)], args := [d1, d2, d3] }
  | _ => none }
def clockNextRow : OpenClaim := { program := "ytpamhedjdpfiaaa", sum := "cb040d848327e04810062d0570e9cc969babe44362705a94882b405863a46927", func := "kith/kithlaw03.ClockNext", spec := "clockNext", apart := false }
def ClockNextSaid : Prop := clockNextRow.holds Try.pinned (OpenSpec.ofChange clockNextSpec)

/-- ITS FALSE NEIGHBOUR: 'it returns false'. Refute it at one input. -/
def clockNextWrong : ChangeSpec := { name := "clockNext", fn := fun _ => fun
  | [d1, d2, d3] => { results := [.lit (.bool false)], args := [d1, d2, d3] }
  | _ => none }
def ClockNextWrongFalsely : Prop := clockNextRow.holds Try.pinned (OpenSpec.ofChange clockNextWrong)

/-- 'kithlaw03.ClockChain': WHATEVER THE INPUT: true; the input reads as it did. -/
def clockChainSpec : ChangeSpec := { name := "clockChain", fn := fun _ => fun
  | [d1, d2, d3] => { results := [.lit (.bool true)], args := [d1, d2, d3] }
  | _ => none }
def clockChainRow : OpenClaim := { program := "ytpamhedjdpfiaaa", sum := "cb040d848327e04810062d0570e9cc969babe44362705a94882b405863a46927", func := "kith/kithlaw03.ClockChain", spec := "clockChain", apart := false }
def ClockChainSaid : Prop := clockChainRow.holds Try.pinned (OpenSpec.ofChange clockChainSpec)

/-- ITS FALSE NEIGHBOUR: 'it returns false'. Refute it at one input. -/
def clockChainWrong : ChangeSpec := { name := "clockChain", fn := fun _ => fun
  | [d1, d2, d3] => { results := [.lit (.bool false)], args := [d1, d2, d3] }
  | _ => none }
def ClockChainWrongFalsely : Prop := clockChainRow.holds Try.pinned (OpenSpec.ofChange clockChainWrong)

/-- 'kithlaw05.TextAll': WHATEVER THE INPUT: true; the input reads as it did. -/
def textAllSpec : ChangeSpec := { name := "textAll", fn := fun _ => fun
  | [d] => { results := [.lit (.bool true)], args := [d] }
  | _ => none }
def textAllRow : OpenClaim := { program := "ytpamhedjdpfiaaa", sum := "cb040d848327e04810062d0570e9cc969babe44362705a94882b405863a46927", func := "kith/kithlaw05.TextAll", spec := "textAll", apart := false }
def TextAllSaid : Prop := textAllRow.holds Try.pinned (OpenSpec.ofChange textAllSpec)

/-- ITS FALSE NEIGHBOUR: 'it returns false'. Refute it at one input. -/
def textAllWrong : ChangeSpec := { name := "textAll", fn := fun _ => fun
  | [d] => { results := [.lit (.bool false)], args := [d] }
  | _ => none }
def TextAllWrongFalsely : Prop := textAllRow.holds Try.pinned (OpenSpec.ofChange textAllWrong)

/-- 'kithlaw05.TextFirst': WHATEVER THE INPUT: true; the input reads as it did. -/
def textFirstSpec : ChangeSpec := { name := "textFirst", fn := fun _ => fun
  | [d1, d2] => { results := [.lit (.bool true)], args := [d1, d2] }
  | _ => none }
def textFirstRow : OpenClaim := { program := "ytpamhedjdpfiaaa", sum := "cb040d848327e04810062d0570e9cc969babe44362705a94882b405863a46927", func := "kith/kithlaw05.TextFirst", spec := "textFirst", apart := false }
def TextFirstSaid : Prop := textFirstRow.holds Try.pinned (OpenSpec.ofChange textFirstSpec)

/-- ITS FALSE NEIGHBOUR: 'it returns false'. Refute it at one input. -/
def textFirstWrong : ChangeSpec := { name := "textFirst", fn := fun _ => fun
  | [d1, d2] => { results := [.lit (.bool false)], args := [d1, d2] }
  | _ => none }
def TextFirstWrongFalsely : Prop := textFirstRow.holds Try.pinned (OpenSpec.ofChange textFirstWrong)

/-- 'kithlaw05.TextMade': WHATEVER THE INPUT: true; the input reads as it did. -/
def textMadeSpec : ChangeSpec := { name := "textMade", fn := fun _ => fun
  | [d1, d2, d3] => { results := [.lit (.bool true)], args := [d1, d2, d3] }
  | _ => none }
def textMadeRow : OpenClaim := { program := "ytpamhedjdpfiaaa", sum := "cb040d848327e04810062d0570e9cc969babe44362705a94882b405863a46927", func := "kith/kithlaw05.TextMade", spec := "textMade", apart := false }
def TextMadeSaid : Prop := textMadeRow.holds Try.pinned (OpenSpec.ofChange textMadeSpec)

/-- ITS FALSE NEIGHBOUR: 'it returns false'. Refute it at one input. -/
def textMadeWrong : ChangeSpec := { name := "textMade", fn := fun _ => fun
  | [d1, d2, d3] => { results := [.lit (.bool false)], args := [d1, d2, d3] }
  | _ => none }
def TextMadeWrongFalsely : Prop := textMadeRow.holds Try.pinned (OpenSpec.ofChange textMadeWrong)

/- THE SECOND FORM. 'bulk': how many values and letters a reading holds, each counted each time it is reached (what is shared counts as often as it is met; a slice's spare places count too). A statement '..UptoSaid' is the law's where the arguments, and the package variables that the reading takes, are together of bulk at most 1048576: NARROWER than '..Said'. Prove '..Said' where nothing that the law and all that it calls make is longer than what came in: it says more and counts as full. Else prove '..UptoSaid'. A law counts once. -/
mutual
def uptoBulk {H : Type} : DataW H → Nat
  | .lit (.string bytes) => bytes.length + 1
  | .lit _ => 1
  | .nil => 1
  | .ptr d => uptoBulk d + 1
  | .slice elems spare => uptoBulkAll elems + uptoBulkAll spare + 1
  | .agg parts => uptoBulkAll parts + 1
  | .iface _ d => uptoBulk d + 1
  | .map entries => uptoBulkEntries entries + 1
  | .held _ => 1
def uptoBulkAll {H : Type} : List (DataW H) → Nat
  | [] => 0
  | d :: r => uptoBulk d + uptoBulkAll r
def uptoBulkEntries {H : Type} : List (Lit × DataW H) → Nat
  | [] => 0
  | x :: r => uptoBulkEntry x + uptoBulkEntries r
def uptoBulkEntry {H : Type} : Lit × DataW H → Nat
  | (.string bytes, d) => bytes.length + uptoBulk d + 1
  | (_, d) => uptoBulk d + 1
 end
def uptoSmall : (H : Type) → List (DataW H) → Bool := fun _ ds => decide (uptoBulkAll ds ≤ 1048576)
def OpenSpec.upto (s : _root_.Go.ChangeSpec) : _root_.Go.OpenSpec := { _root_.Go.OpenSpec.ofChange s with cond := some uptoSmall }

/-- 'kithlaw03.ClockJoins', WHERE WHAT IT READS IS OF BULK AT MOST 1048576: true; the input reads as it did. -/
def clockJoinsUptoRow : OpenClaim := { program := "ytpamhedjdpfiaaa", sum := "cb040d848327e04810062d0570e9cc969babe44362705a94882b405863a46927", func := "kith/kithlaw03.ClockJoins", spec := "clockJoins", apart := false, narrowed := true }
def ClockJoinsUptoSaid : Prop := clockJoinsUptoRow.holds Try.pinned (OpenSpec.upto clockJoinsSpec)

/-- 'kithlaw03.ClockHas', WHERE WHAT IT READS IS OF BULK AT MOST 1048576: true; the input reads as it did. -/
def clockHasUptoRow : OpenClaim := { program := "ytpamhedjdpfiaaa", sum := "cb040d848327e04810062d0570e9cc969babe44362705a94882b405863a46927", func := "kith/kithlaw03.ClockHas", spec := "clockHas", apart := false, narrowed := true }
def ClockHasUptoSaid : Prop := clockHasUptoRow.holds Try.pinned (OpenSpec.upto clockHasSpec)

/-- 'kithlaw05.TextKeys', WHERE WHAT IT READS IS OF BULK AT MOST 1048576: true; the input reads as it did. -/
def textKeysUptoRow : OpenClaim := { program := "ytpamhedjdpfiaaa", sum := "cb040d848327e04810062d0570e9cc969babe44362705a94882b405863a46927", func := "kith/kithlaw05.TextKeys", spec := "textKeys", apart := false, narrowed := true }
def TextKeysUptoSaid : Prop := textKeysUptoRow.holds Try.pinned (OpenSpec.upto textKeysSpec)

/-- 'kithlaw05.TextValues', WHERE WHAT IT READS IS OF BULK AT MOST 1048576: true; the input reads as it did. -/
def textValuesUptoRow : OpenClaim := { program := "ytpamhedjdpfiaaa", sum := "cb040d848327e04810062d0570e9cc969babe44362705a94882b405863a46927", func := "kith/kithlaw05.TextValues", spec := "textValues", apart := false, narrowed := true }
def TextValuesUptoSaid : Prop := textValuesUptoRow.holds Try.pinned (OpenSpec.upto textValuesSpec)

/-- 'kithlaw03.ClockNone', WHERE WHAT IT READS IS OF BULK AT MOST 1048576: true; the input reads as it did. -/
def clockNoneUptoRow : OpenClaim := { program := "ytpamhedjdpfiaaa", sum := "cb040d848327e04810062d0570e9cc969babe44362705a94882b405863a46927", func := "kith/kithlaw03.ClockNone", spec := "clockNone", apart := false, narrowed := true }
def ClockNoneUptoSaid : Prop := clockNoneUptoRow.holds Try.pinned (OpenSpec.upto clockNoneSpec)

/-- 'kithlaw03.ClockAll', WHERE WHAT IT READS IS OF BULK AT MOST 1048576: true; the input reads as it did. -/
def clockAllUptoRow : OpenClaim := { program := "ytpamhedjdpfiaaa", sum := "cb040d848327e04810062d0570e9cc969babe44362705a94882b405863a46927", func := "kith/kithlaw03.ClockAll", spec := "clockAll", apart := false, narrowed := true }
def ClockAllUptoSaid : Prop := clockAllUptoRow.holds Try.pinned (OpenSpec.upto clockAllSpec)

/-- 'kithlaw03.ClockNext', WHERE WHAT IT READS IS OF BULK AT MOST 1048576: true; the input reads as it did. -/
def clockNextUptoRow : OpenClaim := { program := "ytpamhedjdpfiaaa", sum := "cb040d848327e04810062d0570e9cc969babe44362705a94882b405863a46927", func := "kith/kithlaw03.ClockNext", spec := "clockNext", apart := false, narrowed := true }
def ClockNextUptoSaid : Prop := clockNextUptoRow.holds Try.pinned (OpenSpec.upto clockNextSpec)

/-- 'kithlaw03.ClockChain', WHERE WHAT IT READS IS OF BULK AT MOST 1048576: true; the input reads as it did. -/
def clockChainUptoRow : OpenClaim := { program := "ytpamhedjdpfiaaa", sum := "cb040d848327e04810062d0570e9cc969babe44362705a94882b405863a46927", func := "kith/kithlaw03.ClockChain", spec := "clockChain", apart := false, narrowed := true }
def ClockChainUptoSaid : Prop := clockChainUptoRow.holds Try.pinned (OpenSpec.upto clockChainSpec)

/-- 'kithlaw05.TextAll', WHERE WHAT IT READS IS OF BULK AT MOST 1048576: true; the input reads as it did. -/
def textAllUptoRow : OpenClaim := { program := "ytpamhedjdpfiaaa", sum := "cb040d848327e04810062d0570e9cc969babe44362705a94882b405863a46927", func := "kith/kithlaw05.TextAll", spec := "textAll", apart := false, narrowed := true }
def TextAllUptoSaid : Prop := textAllUptoRow.holds Try.pinned (OpenSpec.upto textAllSpec)

/-- 'kithlaw05.TextFirst', WHERE WHAT IT READS IS OF BULK AT MOST 1048576: true; the input reads as it did. -/
def textFirstUptoRow : OpenClaim := { program := "ytpamhedjdpfiaaa", sum := "cb040d848327e04810062d0570e9cc969babe44362705a94882b405863a46927", func := "kith/kithlaw05.TextFirst", spec := "textFirst", apart := false, narrowed := true }
def TextFirstUptoSaid : Prop := textFirstUptoRow.holds Try.pinned (OpenSpec.upto textFirstSpec)

/-- 'kithlaw05.TextMade', WHERE WHAT IT READS IS OF BULK AT MOST 1048576: true; the input reads as it did. -/
def textMadeUptoRow : OpenClaim := { program := "ytpamhedjdpfiaaa", sum := "cb040d848327e04810062d0570e9cc969babe44362705a94882b405863a46927", func := "kith/kithlaw05.TextMade", spec := "textMade", apart := false, narrowed := true }
def TextMadeUptoSaid : Prop := textMadeUptoRow.holds Try.pinned (OpenSpec.upto textMadeSpec)

end Rows
end Go.Proofs.Ytpamhedjdpfiaaa
