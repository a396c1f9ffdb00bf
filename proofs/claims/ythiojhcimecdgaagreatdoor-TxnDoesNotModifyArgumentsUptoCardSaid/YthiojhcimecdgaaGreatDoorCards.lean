/-
  DERIVED. GIVEN WITH THE SEED: THE CARDS: each row of YthiojhcimecdgaaGreatDoorRows.lean that lists a variable, with what it lists TIED to the program's text (the seventh form; the later family's looks); each row that meets fmt, with fmt's text TOLD by the authors' own Lean function (tested against real Go, not proved from fmt's source: count such statements apart). THE CARD IS WHAT COUNTS. Prove the row's statement (the work); the ties are given (YthiojhcimecdgaaGreatDoorTie.lean); close each card by the builder's one call (the guide's Derived/Test/ToyasCard.lean, 'card_holds'). Laid BY PROGRAM, IN A SANDBOX (cutbox-door.mjs). By AI agents, Wed Nov 11 2026. No macro, syntax, notation, axiom, sorry.
-/
import Derived.Test.YthiojhcimecdgaaGreatDoorRows
import GoSem.ClaimSeven
namespace Go.Proofs.YthiojhcimecdgaaGreatDoor
namespace Rows

/-- THE TIED CARD OF 'stemkeep1.DatabaseCloneIsIndependent'. -/
def databaseCloneIsIndependentCard : Claim7 := { stood := { row := databaseCloneIsIndependentRow, standIns := [], harness := (true, "bf2a91c693dca3310d86c613250c85fb3b6c6bbabb0cf27e104c9b2d16a9c9fe"), looks := true }, kinds := [], alts := [], laidByText := true, laidKinds := [.data, .data, .data, .sentinel, .sentinel], laidTests := true, laidLooks := .later }
def DatabaseCloneIsIndependentCardSaid : Prop := Claim7.holds Tryz.pinned (.plain (OpenSpec.ofChange databaseCloneIsIndependentSpec)) databaseCloneIsIndependentCard

/-- THE TIED CARD OF 'stemkeep1.TxnReadsOwnWrites'. -/
def txnReadsOwnWritesCard : Claim7 := { stood := { row := txnReadsOwnWritesRow, standIns := [], harness := (true, "bf2a91c693dca3310d86c613250c85fb3b6c6bbabb0cf27e104c9b2d16a9c9fe"), looks := true }, kinds := [], alts := [], laidByText := true, laidKinds := [.data, .data, .data, .sentinel, .sentinel], laidTests := true, laidLooks := .later }
def TxnReadsOwnWritesCardSaid : Prop := Claim7.holds Tryz.pinned (.plain (OpenSpec.ofChange txnReadsOwnWritesSpec)) txnReadsOwnWritesCard

/-- THE TIED CARD OF 'stemkeep1.TxnApplyComposes'. -/
def txnApplyComposesCard : Claim7 := { stood := { row := txnApplyComposesRow, standIns := [], harness := (true, "bf2a91c693dca3310d86c613250c85fb3b6c6bbabb0cf27e104c9b2d16a9c9fe"), looks := true }, kinds := [], alts := [], laidByText := true, laidKinds := [.data, .data, .data, .sentinel, .sentinel], laidTests := true, laidLooks := .later }
def TxnApplyComposesCardSaid : Prop := Claim7.holds Tryz.pinned (.plain (OpenSpec.ofChange txnApplyComposesSpec)) txnApplyComposesCard

/-- THE TIED CARD OF 'stemkeep1.TxnDoesNotModifyArguments'. -/
def txnDoesNotModifyArgumentsCard : Claim7 := { stood := { row := txnDoesNotModifyArgumentsRow, standIns := [], harness := (true, "bf2a91c693dca3310d86c613250c85fb3b6c6bbabb0cf27e104c9b2d16a9c9fe"), looks := true }, kinds := [], alts := [], laidByText := true, laidKinds := [.data, .data, .data, .sentinel, .sentinel], laidTests := true, laidLooks := .later }
def TxnDoesNotModifyArgumentsCardSaid : Prop := Claim7.holds Tryz.pinned (.plain (OpenSpec.ofChange txnDoesNotModifyArgumentsSpec)) txnDoesNotModifyArgumentsCard

/-- THE SECOND FORM's CARD OF 'stemkeep1.DatabaseCloneIsIndependent'. -/
def databaseCloneIsIndependentUptoCard : Claim7 := { stood := { row := databaseCloneIsIndependentUptoRow, standIns := [], harness := (true, "bf2a91c693dca3310d86c613250c85fb3b6c6bbabb0cf27e104c9b2d16a9c9fe"), looks := true }, kinds := [], alts := [], laidByText := true, laidKinds := [.data, .data, .data, .sentinel, .sentinel], laidTests := true, laidLooks := .later }
def DatabaseCloneIsIndependentUptoCardSaid : Prop := Claim7.holds Tryz.pinned (.plain (OpenSpec.upto databaseCloneIsIndependentSpec)) databaseCloneIsIndependentUptoCard

/-- THE SECOND FORM's CARD OF 'stemkeep1.TxnReadsOwnWrites'. -/
def txnReadsOwnWritesUptoCard : Claim7 := { stood := { row := txnReadsOwnWritesUptoRow, standIns := [], harness := (true, "bf2a91c693dca3310d86c613250c85fb3b6c6bbabb0cf27e104c9b2d16a9c9fe"), looks := true }, kinds := [], alts := [], laidByText := true, laidKinds := [.data, .data, .data, .sentinel, .sentinel], laidTests := true, laidLooks := .later }
def TxnReadsOwnWritesUptoCardSaid : Prop := Claim7.holds Tryz.pinned (.plain (OpenSpec.upto txnReadsOwnWritesSpec)) txnReadsOwnWritesUptoCard

/-- THE SECOND FORM's CARD OF 'stemkeep1.TxnApplyComposes'. -/
def txnApplyComposesUptoCard : Claim7 := { stood := { row := txnApplyComposesUptoRow, standIns := [], harness := (true, "bf2a91c693dca3310d86c613250c85fb3b6c6bbabb0cf27e104c9b2d16a9c9fe"), looks := true }, kinds := [], alts := [], laidByText := true, laidKinds := [.data, .data, .data, .sentinel, .sentinel], laidTests := true, laidLooks := .later }
def TxnApplyComposesUptoCardSaid : Prop := Claim7.holds Tryz.pinned (.plain (OpenSpec.upto txnApplyComposesSpec)) txnApplyComposesUptoCard

/-- THE SECOND FORM's CARD OF 'stemkeep1.TxnDoesNotModifyArguments'. -/
def txnDoesNotModifyArgumentsUptoCard : Claim7 := { stood := { row := txnDoesNotModifyArgumentsUptoRow, standIns := [], harness := (true, "bf2a91c693dca3310d86c613250c85fb3b6c6bbabb0cf27e104c9b2d16a9c9fe"), looks := true }, kinds := [], alts := [], laidByText := true, laidKinds := [.data, .data, .data, .sentinel, .sentinel], laidTests := true, laidLooks := .later }
def TxnDoesNotModifyArgumentsUptoCardSaid : Prop := Claim7.holds Tryz.pinned (.plain (OpenSpec.upto txnDoesNotModifyArgumentsSpec)) txnDoesNotModifyArgumentsUptoCard
end Rows
end Go.Proofs.YthiojhcimecdgaaGreatDoor
