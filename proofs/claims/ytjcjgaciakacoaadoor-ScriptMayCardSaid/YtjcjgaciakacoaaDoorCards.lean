/-
  DERIVED. GIVEN WITH THE SEED: THE CARDS: each row of YtjcjgaciakacoaaDoorRows.lean that lists a variable, with what it lists TIED to the program's text (the seventh form; the later family's looks); each row that meets fmt, with fmt's text TOLD by the authors' own Lean function (tested against real Go, not proved from fmt's source: count such statements apart). THE CARD IS WHAT COUNTS. Prove the row's statement (the work); the ties are given (YtjcjgaciakacoaaDoorTie.lean); close each card by the builder's one call (the guide's Derived/Test/ToyasCard.lean, 'card_holds'). Laid BY PROGRAM, IN A SANDBOX (cutbox-door.mjs). By AI agents, Wed Nov 11 2026. No macro, syntax, notation, axiom, sorry.
-/
import Derived.Test.YtjcjgaciakacoaaDoorRows
import GoSem.ClaimSeven
namespace Go.Proofs.YtjcjgaciakacoaaDoor
namespace Rows

/-- THE TIED CARD OF 'kithlaw23.ScriptAll'. -/
def scriptAllCard : Claim7 := { stood := { row := scriptAllRow, standIns := [], harness := (true, "6d68af2a49010228001bb65d76c9ce512998b507bd17f6a443eb28efb3d2e31e"), looks := false }, kinds := [], alts := [], laidByText := true, laidKinds := [.data, .data, .data], laidTests := true, laidLooks := .later }
def ScriptAllCardSaid : Prop := Claim7.holds Tryd.pinned (.plain (OpenSpec.ofChange scriptAllSpec)) scriptAllCard

/-- THE TIED CARD OF 'kithlaw23.ScriptPower'. -/
def scriptPowerCard : Claim7 := { stood := { row := scriptPowerRow, standIns := [], harness := (true, "6d68af2a49010228001bb65d76c9ce512998b507bd17f6a443eb28efb3d2e31e"), looks := false }, kinds := [], alts := [], laidByText := true, laidKinds := [.data, .data, .data], laidTests := true, laidLooks := .later }
def ScriptPowerCardSaid : Prop := Claim7.holds Tryd.pinned (.plain (OpenSpec.ofChange scriptPowerSpec)) scriptPowerCard

/-- THE TIED CARD OF 'kithlaw23.ScriptTails'. -/
def scriptTailsCard : Claim7 := { stood := { row := scriptTailsRow, standIns := [], harness := (true, "6d68af2a49010228001bb65d76c9ce512998b507bd17f6a443eb28efb3d2e31e"), looks := false }, kinds := [], alts := [], laidByText := true, laidKinds := [.data, .data, .data], laidTests := true, laidLooks := .later }
def ScriptTailsCardSaid : Prop := Claim7.holds Tryd.pinned (.plain (OpenSpec.ofChange scriptTailsSpec)) scriptTailsCard

/-- THE TIED CARD OF 'kithlaw23.ScriptMay'. -/
def scriptMayCard : Claim7 := { stood := { row := scriptMayRow, standIns := [], harness := (true, "6d68af2a49010228001bb65d76c9ce512998b507bd17f6a443eb28efb3d2e31e"), looks := false }, kinds := [], alts := [], laidByText := true, laidKinds := [.data, .data, .data], laidTests := true, laidLooks := .later }
def ScriptMayCardSaid : Prop := Claim7.holds Tryd.pinned (.plain (OpenSpec.ofChange scriptMaySpec)) scriptMayCard

/-- THE SECOND FORM's CARD OF 'kithlaw23.ScriptAll'. -/
def scriptAllUptoCard : Claim7 := { stood := { row := scriptAllUptoRow, standIns := [], harness := (true, "6d68af2a49010228001bb65d76c9ce512998b507bd17f6a443eb28efb3d2e31e"), looks := false }, kinds := [], alts := [], laidByText := true, laidKinds := [.data, .data, .data], laidTests := true, laidLooks := .later }
def ScriptAllUptoCardSaid : Prop := Claim7.holds Tryd.pinned (.plain (OpenSpec.upto scriptAllSpec)) scriptAllUptoCard

/-- THE SECOND FORM's CARD OF 'kithlaw23.ScriptPower'. -/
def scriptPowerUptoCard : Claim7 := { stood := { row := scriptPowerUptoRow, standIns := [], harness := (true, "6d68af2a49010228001bb65d76c9ce512998b507bd17f6a443eb28efb3d2e31e"), looks := false }, kinds := [], alts := [], laidByText := true, laidKinds := [.data, .data, .data], laidTests := true, laidLooks := .later }
def ScriptPowerUptoCardSaid : Prop := Claim7.holds Tryd.pinned (.plain (OpenSpec.upto scriptPowerSpec)) scriptPowerUptoCard

/-- THE SECOND FORM's CARD OF 'kithlaw23.ScriptTails'. -/
def scriptTailsUptoCard : Claim7 := { stood := { row := scriptTailsUptoRow, standIns := [], harness := (true, "6d68af2a49010228001bb65d76c9ce512998b507bd17f6a443eb28efb3d2e31e"), looks := false }, kinds := [], alts := [], laidByText := true, laidKinds := [.data, .data, .data], laidTests := true, laidLooks := .later }
def ScriptTailsUptoCardSaid : Prop := Claim7.holds Tryd.pinned (.plain (OpenSpec.upto scriptTailsSpec)) scriptTailsUptoCard

/-- THE SECOND FORM's CARD OF 'kithlaw23.ScriptMay'. -/
def scriptMayUptoCard : Claim7 := { stood := { row := scriptMayUptoRow, standIns := [], harness := (true, "6d68af2a49010228001bb65d76c9ce512998b507bd17f6a443eb28efb3d2e31e"), looks := false }, kinds := [], alts := [], laidByText := true, laidKinds := [.data, .data, .data], laidTests := true, laidLooks := .later }
def ScriptMayUptoCardSaid : Prop := Claim7.holds Tryd.pinned (.plain (OpenSpec.upto scriptMaySpec)) scriptMayUptoCard
end Rows
end Go.Proofs.YtjcjgaciakacoaaDoor
