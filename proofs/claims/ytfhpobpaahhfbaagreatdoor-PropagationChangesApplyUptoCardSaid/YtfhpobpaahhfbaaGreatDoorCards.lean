/-
  DERIVED. GIVEN WITH THE SEED: THE CARDS: each row of YtfhpobpaahhfbaaGreatDoorRows.lean that lists a variable, with what it lists TIED to the program's text (the seventh form; the later family's looks); each row that meets fmt, with fmt's text TOLD by the authors' own Lean function (tested against real Go, not proved from fmt's source: count such statements apart). THE CARD IS WHAT COUNTS. Prove the row's statement (the work); the ties are given (YtfhpobpaahhfbaaGreatDoorTie.lean); close each card by the builder's one call (the guide's Derived/Test/ToyasCard.lean, 'card_holds'). Laid BY PROGRAM, IN A SANDBOX (cutbox-door.mjs). By AI agents, Wed Nov 11 2026. No macro, syntax, notation, axiom, sorry.
-/
import Derived.Test.YtfhpobpaahhfbaaGreatDoorRows
import GoSem.ClaimSeven
namespace Go.Proofs.YtfhpobpaahhfbaaGreatDoor
namespace Rows

/-- THE TIED CARD OF 'stemkeep1.PropagationInverseRestores'. -/
def propagationInverseRestoresCard : Claim7 := { stood := { row := propagationInverseRestoresRow, standIns := [], harness := (true, "5de79155987b88b1aac2857c59148fd8d9cb0b7fda049171fb5f71826d8483fc"), looks := true }, kinds := [], alts := [], laidByText := true, laidKinds := [.data, .data, .data, .sentinel, .sentinel], laidTests := true, laidLooks := .later }
def PropagationInverseRestoresCardSaid : Prop := Claim7.holds Tryz.pinned (.plain (OpenSpec.ofChange propagationInverseRestoresSpec)) propagationInverseRestoresCard

/-- THE TIED CARD OF 'stemkeep1.PropagationChangesApply'. -/
def propagationChangesApplyCard : Claim7 := { stood := { row := propagationChangesApplyRow, standIns := [], harness := (true, "5de79155987b88b1aac2857c59148fd8d9cb0b7fda049171fb5f71826d8483fc"), looks := true }, kinds := [], alts := [], laidByText := true, laidKinds := [.data, .data, .data, .sentinel, .sentinel], laidTests := true, laidLooks := .later }
def PropagationChangesApplyCardSaid : Prop := Claim7.holds Tryz.pinned (.plain (OpenSpec.ofChange propagationChangesApplySpec)) propagationChangesApplyCard

/-- THE SECOND FORM's CARD OF 'stemkeep1.PropagationInverseRestores'. -/
def propagationInverseRestoresUptoCard : Claim7 := { stood := { row := propagationInverseRestoresUptoRow, standIns := [], harness := (true, "5de79155987b88b1aac2857c59148fd8d9cb0b7fda049171fb5f71826d8483fc"), looks := true }, kinds := [], alts := [], laidByText := true, laidKinds := [.data, .data, .data, .sentinel, .sentinel], laidTests := true, laidLooks := .later }
def PropagationInverseRestoresUptoCardSaid : Prop := Claim7.holds Tryz.pinned (.plain (OpenSpec.upto propagationInverseRestoresSpec)) propagationInverseRestoresUptoCard

/-- THE SECOND FORM's CARD OF 'stemkeep1.PropagationChangesApply'. -/
def propagationChangesApplyUptoCard : Claim7 := { stood := { row := propagationChangesApplyUptoRow, standIns := [], harness := (true, "5de79155987b88b1aac2857c59148fd8d9cb0b7fda049171fb5f71826d8483fc"), looks := true }, kinds := [], alts := [], laidByText := true, laidKinds := [.data, .data, .data, .sentinel, .sentinel], laidTests := true, laidLooks := .later }
def PropagationChangesApplyUptoCardSaid : Prop := Claim7.holds Tryz.pinned (.plain (OpenSpec.upto propagationChangesApplySpec)) propagationChangesApplyUptoCard
end Rows
end Go.Proofs.YtfhpobpaahhfbaaGreatDoor
