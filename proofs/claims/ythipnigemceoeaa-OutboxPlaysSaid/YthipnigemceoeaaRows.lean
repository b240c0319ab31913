/-
  No cell of these rows narrows 'for every input' (looked for: loops, veiled, ifaces, maps, wideKeys, modest, calm, conditions, laid).
  DERIVED. THE GIVEN ROWS OF THIS SEAT. 8 by the template 'for every input the law returns true; each argument reads behind the call as it read before'; 0 by the template 'total and deterministic' (their statements: YthipnigemceoeaaTotals.lean).
  GIVEN WITH THE SEED: the statements are not yours to turn. If you find one false, say at which input.
  Laid BY PROGRAM, IN A SANDBOX (cutbox-rows.mjs): the forced cells as the released guide's own fill.sh prints them over the translation cf4041d8c7bec422… (all of the seat's roots in one cut). By AI agents, Wed Nov 11 2026. No macro, syntax, notation, axiom, sorry.
-/
import Derived.Test.YthipnigemceoeaaChecked
import GoSem.Claim
import GoSem.ClaimJoined
import GoSem.ClaimMapViews
import Derived.JoinedTies
import Derived.KernelRfl
namespace Go.Proofs.Ythipnigemceoeaa
/- THE CELL 'sum', in the pinned program and in every row, IS THE sha256 OF THE DUMP (.gsa) THAT YthipnigemceoeaaProg.lean LOADS. Nothing in Lean hashes anything: it is a label: what it is worth is what the hold of that sum in a sandbox is worth. -/
noncomputable def Try.pinned : Pinned := { name := "ythipnigemceoeaa", sum := "cf4041d8c7bec42200ffc4ec86343b2d76953ae44b9415930275e0bcb7a8b6e4", checked := Try.checked }
namespace Rows
def none {H : Type} : Left H := { results := [], args := [] }

/-- 'kithlaw15.ShelfPlays': WHATEVER THE INPUT: true; the input reads as it did. -/
def shelfPlaysSpec : ChangeSpec := { name := "shelfPlays", fn := fun _ => fun
  | [d1, d2] => { results := [.lit (.bool true)], args := [d1, d2] }
  | _ => none }
def shelfPlaysRow : OpenClaim := { program := "ythipnigemceoeaa", sum := "cf4041d8c7bec42200ffc4ec86343b2d76953ae44b9415930275e0bcb7a8b6e4", func := "kith/kithlaw15.ShelfPlays", spec := "shelfPlays", apart := false }
def ShelfPlaysSaid : Prop := shelfPlaysRow.holds Try.pinned (OpenSpec.ofChange shelfPlaysSpec)

/-- ITS FALSE NEIGHBOUR: 'it returns false'. Refute it at one input. -/
def shelfPlaysWrong : ChangeSpec := { name := "shelfPlays", fn := fun _ => fun
  | [d1, d2] => { results := [.lit (.bool false)], args := [d1, d2] }
  | _ => none }
def ShelfPlaysWrongFalsely : Prop := shelfPlaysRow.holds Try.pinned (OpenSpec.ofChange shelfPlaysWrong)

/-- 'kithlaw15.ShelfAgain': WHATEVER THE INPUT: true; the input reads as it did. -/
def shelfAgainSpec : ChangeSpec := { name := "shelfAgain", fn := fun _ => fun
  | [d1, d2] => { results := [.lit (.bool true)], args := [d1, d2] }
  | _ => none }
def shelfAgainRow : OpenClaim := { program := "ythipnigemceoeaa", sum := "cf4041d8c7bec42200ffc4ec86343b2d76953ae44b9415930275e0bcb7a8b6e4", func := "kith/kithlaw15.ShelfAgain", spec := "shelfAgain", apart := false }
def ShelfAgainSaid : Prop := shelfAgainRow.holds Try.pinned (OpenSpec.ofChange shelfAgainSpec)

/-- ITS FALSE NEIGHBOUR: 'it returns false'. Refute it at one input. -/
def shelfAgainWrong : ChangeSpec := { name := "shelfAgain", fn := fun _ => fun
  | [d1, d2] => { results := [.lit (.bool false)], args := [d1, d2] }
  | _ => none }
def ShelfAgainWrongFalsely : Prop := shelfAgainRow.holds Try.pinned (OpenSpec.ofChange shelfAgainWrong)

/-- 'kithlaw15.ShelfFrom': WHATEVER THE INPUT: true; the input reads as it did. -/
def shelfFromSpec : ChangeSpec := { name := "shelfFrom", fn := fun _ => fun
  | [d1, d2, d3] => { results := [.lit (.bool true)], args := [d1, d2, d3] }
  | _ => none }
def shelfFromRow : OpenClaim := { program := "ythipnigemceoeaa", sum := "cf4041d8c7bec42200ffc4ec86343b2d76953ae44b9415930275e0bcb7a8b6e4", func := "kith/kithlaw15.ShelfFrom", spec := "shelfFrom", apart := false }
def ShelfFromSaid : Prop := shelfFromRow.holds Try.pinned (OpenSpec.ofChange shelfFromSpec)

/-- ITS FALSE NEIGHBOUR: 'it returns false'. Refute it at one input. -/
def shelfFromWrong : ChangeSpec := { name := "shelfFrom", fn := fun _ => fun
  | [d1, d2, d3] => { results := [.lit (.bool false)], args := [d1, d2, d3] }
  | _ => none }
def ShelfFromWrongFalsely : Prop := shelfFromRow.holds Try.pinned (OpenSpec.ofChange shelfFromWrong)

/-- 'kithlaw15.ShelfCuts': WHATEVER THE INPUT: true; the input reads as it did. -/
def shelfCutsSpec : ChangeSpec := { name := "shelfCuts", fn := fun _ => fun
  | [d1, d2, d3] => { results := [.lit (.bool true)], args := [d1, d2, d3] }
  | _ => none }
def shelfCutsRow : OpenClaim := { program := "ythipnigemceoeaa", sum := "cf4041d8c7bec42200ffc4ec86343b2d76953ae44b9415930275e0bcb7a8b6e4", func := "kith/kithlaw15.ShelfCuts", spec := "shelfCuts", apart := false }
def ShelfCutsSaid : Prop := shelfCutsRow.holds Try.pinned (OpenSpec.ofChange shelfCutsSpec)

/-- ITS FALSE NEIGHBOUR: 'it returns false'. Refute it at one input. -/
def shelfCutsWrong : ChangeSpec := { name := "shelfCuts", fn := fun _ => fun
  | [d1, d2, d3] => { results := [.lit (.bool false)], args := [d1, d2, d3] }
  | _ => none }
def ShelfCutsWrongFalsely : Prop := shelfCutsRow.holds Try.pinned (OpenSpec.ofChange shelfCutsWrong)

/-- 'kithlaw14.OutboxPlays': WHATEVER THE INPUT: true; the input reads as it did. -/
def outboxPlaysSpec : ChangeSpec := { name := "outboxPlays", fn := fun _ => fun
  | [d1, d2] => { results := [.lit (.bool true)], args := [d1, d2] }
  | _ => none }
def outboxPlaysRow : OpenClaim := { program := "ythipnigemceoeaa", sum := "cf4041d8c7bec42200ffc4ec86343b2d76953ae44b9415930275e0bcb7a8b6e4", func := "kith/kithlaw14.OutboxPlays", spec := "outboxPlays", apart := false }
def OutboxPlaysSaid : Prop := outboxPlaysRow.holds Try.pinned (OpenSpec.ofChange outboxPlaysSpec)

/-- ITS FALSE NEIGHBOUR: 'it returns false'. Refute it at one input. -/
def outboxPlaysWrong : ChangeSpec := { name := "outboxPlays", fn := fun _ => fun
  | [d1, d2] => { results := [.lit (.bool false)], args := [d1, d2] }
  | _ => none }
def OutboxPlaysWrongFalsely : Prop := outboxPlaysRow.holds Try.pinned (OpenSpec.ofChange outboxPlaysWrong)

/-- 'kithlaw14.OutboxSends': WHATEVER THE INPUT: true; the input reads as it did. -/
def outboxSendsSpec : ChangeSpec := { name := "outboxSends", fn := fun _ => fun
  | [d1, d2] => { results := [.lit (.bool true)], args := [d1, d2] }
  | _ => none }
def outboxSendsRow : OpenClaim := { program := "ythipnigemceoeaa", sum := "cf4041d8c7bec42200ffc4ec86343b2d76953ae44b9415930275e0bcb7a8b6e4", func := "kith/kithlaw14.OutboxSends", spec := "outboxSends", apart := false }
def OutboxSendsSaid : Prop := outboxSendsRow.holds Try.pinned (OpenSpec.ofChange outboxSendsSpec)

/-- ITS FALSE NEIGHBOUR: 'it returns false'. Refute it at one input. -/
def outboxSendsWrong : ChangeSpec := { name := "outboxSends", fn := fun _ => fun
  | [d1, d2] => { results := [.lit (.bool false)], args := [d1, d2] }
  | _ => none }
def OutboxSendsWrongFalsely : Prop := outboxSendsRow.holds Try.pinned (OpenSpec.ofChange outboxSendsWrong)

/-- 'kithlaw14.OutboxStarts': WHATEVER THE INPUT: true; the input reads as it did. -/
def outboxStartsSpec : ChangeSpec := { name := "outboxStarts", fn := fun _ => fun
  | [d1, d2, d3] => { results := [.lit (.bool true)], args := [d1, d2, d3] }
  | _ => none }
def outboxStartsRow : OpenClaim := { program := "ythipnigemceoeaa", sum := "cf4041d8c7bec42200ffc4ec86343b2d76953ae44b9415930275e0bcb7a8b6e4", func := "kith/kithlaw14.OutboxStarts", spec := "outboxStarts", apart := false }
def OutboxStartsSaid : Prop := outboxStartsRow.holds Try.pinned (OpenSpec.ofChange outboxStartsSpec)

/-- ITS FALSE NEIGHBOUR: 'it returns false'. Refute it at one input. -/
def outboxStartsWrong : ChangeSpec := { name := "outboxStarts", fn := fun _ => fun
  | [d1, d2, d3] => { results := [.lit (.bool false)], args := [d1, d2, d3] }
  | _ => none }
def OutboxStartsWrongFalsely : Prop := outboxStartsRow.holds Try.pinned (OpenSpec.ofChange outboxStartsWrong)

/-- 'kithlaw14.OutboxLooks': WHATEVER THE INPUT: true; the input reads as it did. -/
def outboxLooksSpec : ChangeSpec := { name := "outboxLooks", fn := fun _ => fun
  | [d] => { results := [.lit (.bool true)], args := [d] }
  | _ => none }
def outboxLooksRow : OpenClaim := { program := "ythipnigemceoeaa", sum := "cf4041d8c7bec42200ffc4ec86343b2d76953ae44b9415930275e0bcb7a8b6e4", func := "kith/kithlaw14.OutboxLooks", spec := "outboxLooks", apart := false }
def OutboxLooksSaid : Prop := outboxLooksRow.holds Try.pinned (OpenSpec.ofChange outboxLooksSpec)

/-- ITS FALSE NEIGHBOUR: 'it returns false'. Refute it at one input. -/
def outboxLooksWrong : ChangeSpec := { name := "outboxLooks", fn := fun _ => fun
  | [d] => { results := [.lit (.bool false)], args := [d] }
  | _ => none }
def OutboxLooksWrongFalsely : Prop := outboxLooksRow.holds Try.pinned (OpenSpec.ofChange outboxLooksWrong)

/- THE SECOND FORM. 'bulk': how many values and letters a reading holds, each counted each time it is reached (what is shared counts as often as it is met; a slice's spare places count too). A statement '..UptoSaid' is the law's where the arguments, and the package variables that the reading takes, are together of bulk at most 1048576: NARROWER than '..Said'. Prove '..Said' where nothing that the law and all that it calls make is longer than what came in: it says more and counts as full. Else prove '..UptoSaid'. A law counts once. -/
mutual
def uptoBulk {H : Type} : DataW H → Nat
  | .lit (.string bytes) => bytes.length + 1
  | .lit _ => 1
  | .nil => 1
  | .ptr d => uptoBulk d + 1
  | .slice elems spare => uptoBulkAll elems + uptoBulkAll spare + 1
  | .agg parts => uptoBulkAll parts + 1
  | .iface _ d => uptoBulk d + 1
  | .map entries => uptoBulkEntries entries + 1
  | .held _ => 1
def uptoBulkAll {H : Type} : List (DataW H) → Nat
  | [] => 0
  | d :: r => uptoBulk d + uptoBulkAll r
def uptoBulkEntries {H : Type} : List (Lit × DataW H) → Nat
  | [] => 0
  | x :: r => uptoBulkEntry x + uptoBulkEntries r
def uptoBulkEntry {H : Type} : Lit × DataW H → Nat
  | (.string bytes, d) => bytes.length + uptoBulk d + 1
  | (_, d) => uptoBulk d + 1
 end
def uptoSmall : (H : Type) → List (DataW H) → Bool := fun _ ds => decide (uptoBulkAll ds ≤ 1048576)
def OpenSpec.upto (s : _root_.Go.ChangeSpec) : _root_.Go.OpenSpec := { _root_.Go.OpenSpec.ofChange s with cond := some uptoSmall }

/-- 'kithlaw15.ShelfPlays', WHERE WHAT IT READS IS OF BULK AT MOST 1048576: true; the input reads as it did. -/
def shelfPlaysUptoRow : OpenClaim := { program := "ythipnigemceoeaa", sum := "cf4041d8c7bec42200ffc4ec86343b2d76953ae44b9415930275e0bcb7a8b6e4", func := "kith/kithlaw15.ShelfPlays", spec := "shelfPlays", apart := false, narrowed := true }
def ShelfPlaysUptoSaid : Prop := shelfPlaysUptoRow.holds Try.pinned (OpenSpec.upto shelfPlaysSpec)

/-- 'kithlaw15.ShelfAgain', WHERE WHAT IT READS IS OF BULK AT MOST 1048576: true; the input reads as it did. -/
def shelfAgainUptoRow : OpenClaim := { program := "ythipnigemceoeaa", sum := "cf4041d8c7bec42200ffc4ec86343b2d76953ae44b9415930275e0bcb7a8b6e4", func := "kith/kithlaw15.ShelfAgain", spec := "shelfAgain", apart := false, narrowed := true }
def ShelfAgainUptoSaid : Prop := shelfAgainUptoRow.holds Try.pinned (OpenSpec.upto shelfAgainSpec)

/-- 'kithlaw15.ShelfFrom', WHERE WHAT IT READS IS OF BULK AT MOST 1048576: true; the input reads as it did. -/
def shelfFromUptoRow : OpenClaim := { program := "ythipnigemceoeaa", sum := "cf4041d8c7bec42200ffc4ec86343b2d76953ae44b9415930275e0bcb7a8b6e4", func := "kith/kithlaw15.ShelfFrom", spec := "shelfFrom", apart := false, narrowed := true }
def ShelfFromUptoSaid : Prop := shelfFromUptoRow.holds Try.pinned (OpenSpec.upto shelfFromSpec)

/-- 'kithlaw15.ShelfCuts', WHERE WHAT IT READS IS OF BULK AT MOST 1048576: true; the input reads as it did. -/
def shelfCutsUptoRow : OpenClaim := { program := "ythipnigemceoeaa", sum := "cf4041d8c7bec42200ffc4ec86343b2d76953ae44b9415930275e0bcb7a8b6e4", func := "kith/kithlaw15.ShelfCuts", spec := "shelfCuts", apart := false, narrowed := true }
def ShelfCutsUptoSaid : Prop := shelfCutsUptoRow.holds Try.pinned (OpenSpec.upto shelfCutsSpec)

/-- 'kithlaw14.OutboxPlays', WHERE WHAT IT READS IS OF BULK AT MOST 1048576: true; the input reads as it did. -/
def outboxPlaysUptoRow : OpenClaim := { program := "ythipnigemceoeaa", sum := "cf4041d8c7bec42200ffc4ec86343b2d76953ae44b9415930275e0bcb7a8b6e4", func := "kith/kithlaw14.OutboxPlays", spec := "outboxPlays", apart := false, narrowed := true }
def OutboxPlaysUptoSaid : Prop := outboxPlaysUptoRow.holds Try.pinned (OpenSpec.upto outboxPlaysSpec)

/-- 'kithlaw14.OutboxSends', WHERE WHAT IT READS IS OF BULK AT MOST 1048576: true; the input reads as it did. -/
def outboxSendsUptoRow : OpenClaim := { program := "ythipnigemceoeaa", sum := "cf4041d8c7bec42200ffc4ec86343b2d76953ae44b9415930275e0bcb7a8b6e4", func := "kith/kithlaw14.OutboxSends", spec := "outboxSends", apart := false, narrowed := true }
def OutboxSendsUptoSaid : Prop := outboxSendsUptoRow.holds Try.pinned (OpenSpec.upto outboxSendsSpec)

/-- 'kithlaw14.OutboxStarts', WHERE WHAT IT READS IS OF BULK AT MOST 1048576: true; the input reads as it did. -/
def outboxStartsUptoRow : OpenClaim := { program := "ythipnigemceoeaa", sum := "cf4041d8c7bec42200ffc4ec86343b2d76953ae44b9415930275e0bcb7a8b6e4", func := "kith/kithlaw14.OutboxStarts", spec := "outboxStarts", apart := false, narrowed := true }
def OutboxStartsUptoSaid : Prop := outboxStartsUptoRow.holds Try.pinned (OpenSpec.upto outboxStartsSpec)

/-- 'kithlaw14.OutboxLooks', WHERE WHAT IT READS IS OF BULK AT MOST 1048576: true; the input reads as it did. -/
def outboxLooksUptoRow : OpenClaim := { program := "ythipnigemceoeaa", sum := "cf4041d8c7bec42200ffc4ec86343b2d76953ae44b9415930275e0bcb7a8b6e4", func := "kith/kithlaw14.OutboxLooks", spec := "outboxLooks", apart := false, narrowed := true }
def OutboxLooksUptoSaid : Prop := outboxLooksUptoRow.holds Try.pinned (OpenSpec.upto outboxLooksSpec)

end Rows
end Go.Proofs.Ythipnigemceoeaa
