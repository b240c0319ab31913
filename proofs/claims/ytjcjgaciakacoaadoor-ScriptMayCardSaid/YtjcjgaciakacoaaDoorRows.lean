/-
  NARROWER THAN 'FOR EVERY INPUT', by the rows' own cells (each row's printed sentence says how): ScriptAll: laid · ScriptPower: laid · ScriptTails: laid · ScriptMay: laid.
  DERIVED. THE GIVEN ROWS OF THIS SEAT. 4 by the template 'for every input the law returns true; each argument reads behind the call as it read before'; 0 by the template 'total and deterministic' (their statements: YtjcjgaciakacoaaDoorTotals.lean).
  GIVEN WITH THE SEED: the statements are not yours to turn. If you find one false, say at which input.
  Laid BY PROGRAM, IN A SANDBOX (cutbox-rows.mjs): the forced cells as the released guide's own fill.sh prints them over the translation 4a0c918098cee0b4… (all of the seat's roots in one cut). By AI agents, Wed Nov 11 2026. No macro, syntax, notation, axiom, sorry.
-/
import Derived.Test.YtjcjgaciakacoaaDoorChecked
import GoSem.Claim
import GoSem.ClaimJoined
import GoSem.ClaimMapViews
import Derived.JoinedTies
import Derived.KernelRfl
namespace Go.Proofs.YtjcjgaciakacoaaDoor
/- THE CELL 'sum', in the pinned program and in every row, IS THE sha256 OF THE DUMP (.gsa) THAT YtjcjgaciakacoaaDoorProg.lean LOADS. Nothing in Lean hashes anything: it is a label: what it is worth is what the hold of that sum in a sandbox is worth. -/
noncomputable def Tryd.pinned : Pinned := { name := "ytjcjgaciakacoaadoor", sum := "4a0c918098cee0b4c4663c670e823ec8221f1666884d2cf12adcca5121fa2bfc", checked := Tryd.checked }
namespace Rows
def none {H : Type} : Left H := { results := [], args := [] }

/- WHAT THE LISTED PACKAGE-LEVEL VARIABLES READ AS WHEN THE CALL BEGINS. Each datum BY PROGRAM (the guide's laid-datum.mjs) off the statement by which the dump's own 'gosem.cut.vars' lays the variable. In a bare row this is a premise. The card (YtjcjgaciakacoaaDoorCards.lean) ties it to the program's text. -/
def laid_kith_script_kinds {H : Type} : DataW H := .agg [.lit (.int .i64 0), .lit (.int .i64 0), .lit (.int .i64 0), .lit (.int .i64 0), .lit (.int .i64 0), .lit (.int .i64 1), .lit (.int .i64 2), .lit (.int .i64 3), .lit (.int .i64 4), .lit (.int .i64 5), .lit (.int .i64 6), .lit (.int .i64 7), .lit (.int .i64 8), .lit (.int .i64 9), .lit (.int .i64 10), .lit (.int .i64 11)]
def laid_kith_script_keys {H : Type} : DataW H := .agg [.lit (.string [97, 110, 110]), .lit (.string [98, 111, 98]), .lit (.string [99, 121]), .lit (.string [100, 105])]
def laid_kith_script_values {H : Type} : DataW H := .agg [.lit (.string [49]), .lit (.string [50, 50]), .lit (.string [255]), .lit (.string [116, 119, 101, 108, 118, 101, 32, 98, 121, 116, 101, 115])]

/-- 'kithlaw23.ScriptAll': WHATEVER THE INPUT: true; the input reads as it did. -/
def scriptAllSpec : ChangeSpec := { name := "scriptAll", fn := fun _ => fun
  | [d1, d2] => { results := [.lit (.bool true)], args := [d1, d2] }
  | _ => none }
def scriptAllRow : OpenClaim := { program := "ytjcjgaciakacoaadoor", sum := "4a0c918098cee0b4c4663c670e823ec8221f1666884d2cf12adcca5121fa2bfc", func := "kith/kithlaw23.ScriptAll", spec := "scriptAll", named := ["kith/script.kinds", "kith/script.keys", "kith/script.values"], apart := false, laid := [("kith/script.kinds", laid_kith_script_kinds), ("kith/script.keys", laid_kith_script_keys), ("kith/script.values", laid_kith_script_values)] }
def ScriptAllSaid : Prop := scriptAllRow.holds Tryd.pinned (OpenSpec.ofChange scriptAllSpec)

/-- ITS FALSE NEIGHBOUR: 'it returns false'. Refute it at one input. -/
def scriptAllWrong : ChangeSpec := { name := "scriptAll", fn := fun _ => fun
  | [d1, d2] => { results := [.lit (.bool false)], args := [d1, d2] }
  | _ => none }
def ScriptAllWrongFalsely : Prop := scriptAllRow.holds Tryd.pinned (OpenSpec.ofChange scriptAllWrong)

/-- 'kithlaw23.ScriptPower': WHATEVER THE INPUT: true; the input reads as it did. -/
def scriptPowerSpec : ChangeSpec := { name := "scriptPower", fn := fun _ => fun
  | [d1, d2] => { results := [.lit (.bool true)], args := [d1, d2] }
  | _ => none }
def scriptPowerRow : OpenClaim := { program := "ytjcjgaciakacoaadoor", sum := "4a0c918098cee0b4c4663c670e823ec8221f1666884d2cf12adcca5121fa2bfc", func := "kith/kithlaw23.ScriptPower", spec := "scriptPower", named := ["kith/script.kinds", "kith/script.keys", "kith/script.values"], apart := false, laid := [("kith/script.kinds", laid_kith_script_kinds), ("kith/script.keys", laid_kith_script_keys), ("kith/script.values", laid_kith_script_values)] }
def ScriptPowerSaid : Prop := scriptPowerRow.holds Tryd.pinned (OpenSpec.ofChange scriptPowerSpec)

/-- ITS FALSE NEIGHBOUR: 'it returns false'. Refute it at one input. -/
def scriptPowerWrong : ChangeSpec := { name := "scriptPower", fn := fun _ => fun
  | [d1, d2] => { results := [.lit (.bool false)], args := [d1, d2] }
  | _ => none }
def ScriptPowerWrongFalsely : Prop := scriptPowerRow.holds Tryd.pinned (OpenSpec.ofChange scriptPowerWrong)

/-- 'kithlaw23.ScriptTails': WHATEVER THE INPUT: true; the input reads as it did. -/
def scriptTailsSpec : ChangeSpec := { name := "scriptTails", fn := fun _ => fun
  | [d1, d2, d3] => { results := [.lit (.bool true)], args := [d1, d2, d3] }
  | _ => none }
def scriptTailsRow : OpenClaim := { program := "ytjcjgaciakacoaadoor", sum := "4a0c918098cee0b4c4663c670e823ec8221f1666884d2cf12adcca5121fa2bfc", func := "kith/kithlaw23.ScriptTails", spec := "scriptTails", named := ["kith/script.kinds", "kith/script.keys", "kith/script.values"], apart := false, laid := [("kith/script.kinds", laid_kith_script_kinds), ("kith/script.keys", laid_kith_script_keys), ("kith/script.values", laid_kith_script_values)] }
def ScriptTailsSaid : Prop := scriptTailsRow.holds Tryd.pinned (OpenSpec.ofChange scriptTailsSpec)

/-- ITS FALSE NEIGHBOUR: 'it returns false'. Refute it at one input. -/
def scriptTailsWrong : ChangeSpec := { name := "scriptTails", fn := fun _ => fun
  | [d1, d2, d3] => { results := [.lit (.bool false)], args := [d1, d2, d3] }
  | _ => none }
def ScriptTailsWrongFalsely : Prop := scriptTailsRow.holds Tryd.pinned (OpenSpec.ofChange scriptTailsWrong)

/-- 'kithlaw23.ScriptMay': WHATEVER THE INPUT: true; the input reads as it did. -/
def scriptMaySpec : ChangeSpec := { name := "scriptMay", fn := fun _ => fun
  | [d1, d2, d3] => { results := [.lit (.bool true)], args := [d1, d2, d3] }
  | _ => none }
def scriptMayRow : OpenClaim := { program := "ytjcjgaciakacoaadoor", sum := "4a0c918098cee0b4c4663c670e823ec8221f1666884d2cf12adcca5121fa2bfc", func := "kith/kithlaw23.ScriptMay", spec := "scriptMay", named := ["kith/script.kinds", "kith/script.keys", "kith/script.values"], apart := false, laid := [("kith/script.kinds", laid_kith_script_kinds), ("kith/script.keys", laid_kith_script_keys), ("kith/script.values", laid_kith_script_values)] }
def ScriptMaySaid : Prop := scriptMayRow.holds Tryd.pinned (OpenSpec.ofChange scriptMaySpec)

/-- ITS FALSE NEIGHBOUR: 'it returns false'. Refute it at one input. -/
def scriptMayWrong : ChangeSpec := { name := "scriptMay", fn := fun _ => fun
  | [d1, d2, d3] => { results := [.lit (.bool false)], args := [d1, d2, d3] }
  | _ => none }
def ScriptMayWrongFalsely : Prop := scriptMayRow.holds Tryd.pinned (OpenSpec.ofChange scriptMayWrong)

/- THE SECOND FORM. 'bulk': how many values and letters a reading holds, each counted each time it is reached (what is shared counts as often as it is met; a slice's spare places count too). A statement '..UptoSaid' is the law's where the arguments, and the package variables that the reading takes, are together of bulk at most 1048576: NARROWER than '..Said'. Prove '..Said' where nothing that the law and all that it calls make is longer than what came in: it says more and counts as full. Else prove '..UptoSaid'. A law counts once. -/
mutual
def uptoBulk {H : Type} : DataW H → Nat
  | .lit (.string bytes) => bytes.length + 1
  | .lit _ => 1
  | .nil => 1
  | .ptr d => uptoBulk d + 1
  | .slice elems spare => uptoBulkAll elems + uptoBulkAll spare + 1
  | .agg parts => uptoBulkAll parts + 1
  | .iface _ d => uptoBulk d + 1
  | .map entries => uptoBulkEntries entries + 1
  | .held _ => 1
def uptoBulkAll {H : Type} : List (DataW H) → Nat
  | [] => 0
  | d :: r => uptoBulk d + uptoBulkAll r
def uptoBulkEntries {H : Type} : List (Lit × DataW H) → Nat
  | [] => 0
  | x :: r => uptoBulkEntry x + uptoBulkEntries r
def uptoBulkEntry {H : Type} : Lit × DataW H → Nat
  | (.string bytes, d) => bytes.length + uptoBulk d + 1
  | (_, d) => uptoBulk d + 1
 end
def uptoSmall : (H : Type) → List (DataW H) → Bool := fun _ ds => decide (uptoBulkAll ds ≤ 1048576)
def OpenSpec.upto (s : _root_.Go.ChangeSpec) : _root_.Go.OpenSpec := { _root_.Go.OpenSpec.ofChange s with cond := some uptoSmall }

/-- 'kithlaw23.ScriptAll', WHERE WHAT IT READS IS OF BULK AT MOST 1048576: true; the input reads as it did. -/
def scriptAllUptoRow : OpenClaim := { program := "ytjcjgaciakacoaadoor", sum := "4a0c918098cee0b4c4663c670e823ec8221f1666884d2cf12adcca5121fa2bfc", func := "kith/kithlaw23.ScriptAll", spec := "scriptAll", named := ["kith/script.kinds", "kith/script.keys", "kith/script.values"], apart := false, laid := [("kith/script.kinds", laid_kith_script_kinds), ("kith/script.keys", laid_kith_script_keys), ("kith/script.values", laid_kith_script_values)], narrowed := true }
def ScriptAllUptoSaid : Prop := scriptAllUptoRow.holds Tryd.pinned (OpenSpec.upto scriptAllSpec)

/-- 'kithlaw23.ScriptPower', WHERE WHAT IT READS IS OF BULK AT MOST 1048576: true; the input reads as it did. -/
def scriptPowerUptoRow : OpenClaim := { program := "ytjcjgaciakacoaadoor", sum := "4a0c918098cee0b4c4663c670e823ec8221f1666884d2cf12adcca5121fa2bfc", func := "kith/kithlaw23.ScriptPower", spec := "scriptPower", named := ["kith/script.kinds", "kith/script.keys", "kith/script.values"], apart := false, laid := [("kith/script.kinds", laid_kith_script_kinds), ("kith/script.keys", laid_kith_script_keys), ("kith/script.values", laid_kith_script_values)], narrowed := true }
def ScriptPowerUptoSaid : Prop := scriptPowerUptoRow.holds Tryd.pinned (OpenSpec.upto scriptPowerSpec)

/-- 'kithlaw23.ScriptTails', WHERE WHAT IT READS IS OF BULK AT MOST 1048576: true; the input reads as it did. -/
def scriptTailsUptoRow : OpenClaim := { program := "ytjcjgaciakacoaadoor", sum := "4a0c918098cee0b4c4663c670e823ec8221f1666884d2cf12adcca5121fa2bfc", func := "kith/kithlaw23.ScriptTails", spec := "scriptTails", named := ["kith/script.kinds", "kith/script.keys", "kith/script.values"], apart := false, laid := [("kith/script.kinds", laid_kith_script_kinds), ("kith/script.keys", laid_kith_script_keys), ("kith/script.values", laid_kith_script_values)], narrowed := true }
def ScriptTailsUptoSaid : Prop := scriptTailsUptoRow.holds Tryd.pinned (OpenSpec.upto scriptTailsSpec)

/-- 'kithlaw23.ScriptMay', WHERE WHAT IT READS IS OF BULK AT MOST 1048576: true; the input reads as it did. -/
def scriptMayUptoRow : OpenClaim := { program := "ytjcjgaciakacoaadoor", sum := "4a0c918098cee0b4c4663c670e823ec8221f1666884d2cf12adcca5121fa2bfc", func := "kith/kithlaw23.ScriptMay", spec := "scriptMay", named := ["kith/script.kinds", "kith/script.keys", "kith/script.values"], apart := false, laid := [("kith/script.kinds", laid_kith_script_kinds), ("kith/script.keys", laid_kith_script_keys), ("kith/script.values", laid_kith_script_values)], narrowed := true }
def ScriptMayUptoSaid : Prop := scriptMayUptoRow.holds Tryd.pinned (OpenSpec.upto scriptMaySpec)

end Rows
end Go.Proofs.YtjcjgaciakacoaaDoor
