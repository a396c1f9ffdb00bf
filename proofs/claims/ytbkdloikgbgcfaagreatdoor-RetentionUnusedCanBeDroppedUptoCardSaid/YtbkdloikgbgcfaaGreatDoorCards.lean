/-
  DERIVED. GIVEN WITH THE SEED: THE CARDS: each row of YtbkdloikgbgcfaaGreatDoorRows.lean that lists a variable, with what it lists TIED to the program's text (the seventh form; the later family's looks); each row that meets fmt, with fmt's text TOLD by the authors' own Lean function (tested against real Go, not proved from fmt's source: count such statements apart). THE CARD IS WHAT COUNTS. Prove the row's statement (the work); the ties are given (YtbkdloikgbgcfaaGreatDoorTie.lean); close each card by the builder's one call (the guide's Derived/Test/ToyasCard.lean, 'card_holds'). Laid BY PROGRAM, IN A SANDBOX (cutbox-door.mjs). By AI agents, Wed Nov 11 2026. No macro, syntax, notation, axiom, sorry.
-/
import Derived.Test.YtbkdloikgbgcfaaGreatDoorRows
import GoSem.ClaimSeven
namespace Go.Proofs.YtbkdloikgbgcfaaGreatDoor
namespace Rows

/-- THE TIED CARD OF 'stemkeep1.RetentionUnusedCanBeDropped'. -/
def retentionUnusedCanBeDroppedCard : Claim7 := { stood := { row := retentionUnusedCanBeDroppedRow, standIns := [], harness := (true, "f47b919c7c00ceb55df9ddb823167be6932daa3cc7337033ae979d7ca60d7634"), looks := true }, kinds := [], alts := [], laidByText := true, laidKinds := [.data, .data, .data, .sentinel, .sentinel], laidTests := true, laidLooks := .later }
def RetentionUnusedCanBeDroppedCardSaid : Prop := Claim7.holds Tryz.pinned (.plain (OpenSpec.ofChange retentionUnusedCanBeDroppedSpec)) retentionUnusedCanBeDroppedCard

/-- THE TIED CARD OF 'stemkeep1.RetentionNewVersionLosesNothing'. -/
def retentionNewVersionLosesNothingCard : Claim7 := { stood := { row := retentionNewVersionLosesNothingRow, standIns := [], harness := (true, "f47b919c7c00ceb55df9ddb823167be6932daa3cc7337033ae979d7ca60d7634"), looks := true }, kinds := [], alts := [], laidByText := true, laidKinds := [.data, .data, .data, .sentinel, .sentinel], laidTests := true, laidLooks := .later }
def RetentionNewVersionLosesNothingCardSaid : Prop := Claim7.holds Tryz.pinned (.plain (OpenSpec.ofChange retentionNewVersionLosesNothingSpec)) retentionNewVersionLosesNothingCard

/-- THE TIED CARD OF 'stemkeep1.DatabaseEvolvePreservesVersions'. -/
def databaseEvolvePreservesVersionsCard : Claim7 := { stood := { row := databaseEvolvePreservesVersionsRow, standIns := [], harness := (true, "f47b919c7c00ceb55df9ddb823167be6932daa3cc7337033ae979d7ca60d7634"), looks := true }, kinds := [], alts := [], laidByText := true, laidKinds := [.data, .data, .data, .sentinel, .sentinel], laidTests := true, laidLooks := .later }
def DatabaseEvolvePreservesVersionsCardSaid : Prop := Claim7.holds Tryz.pinned (.plain (OpenSpec.ofChange databaseEvolvePreservesVersionsSpec)) databaseEvolvePreservesVersionsCard

/-- THE TIED CARD OF 'stemkeep1.DatabaseEvolveThenWrite'. -/
def databaseEvolveThenWriteCard : Claim7 := { stood := { row := databaseEvolveThenWriteRow, standIns := [], harness := (true, "f47b919c7c00ceb55df9ddb823167be6932daa3cc7337033ae979d7ca60d7634"), looks := true }, kinds := [], alts := [], laidByText := true, laidKinds := [.data, .data, .data, .sentinel, .sentinel], laidTests := true, laidLooks := .later }
def DatabaseEvolveThenWriteCardSaid : Prop := Claim7.holds Tryz.pinned (.plain (OpenSpec.ofChange databaseEvolveThenWriteSpec)) databaseEvolveThenWriteCard

/-- THE TIED CARD OF 'stemkeep1.PropagationInverseRestores'. -/
def propagationInverseRestoresCard : Claim7 := { stood := { row := propagationInverseRestoresRow, standIns := [], harness := (true, "f47b919c7c00ceb55df9ddb823167be6932daa3cc7337033ae979d7ca60d7634"), looks := true }, kinds := [], alts := [], laidByText := true, laidKinds := [.data, .data, .data, .sentinel, .sentinel], laidTests := true, laidLooks := .later }
def PropagationInverseRestoresCardSaid : Prop := Claim7.holds Tryz.pinned (.plain (OpenSpec.ofChange propagationInverseRestoresSpec)) propagationInverseRestoresCard

/-- THE TIED CARD OF 'stemkeep1.PropagationChangesApply'. -/
def propagationChangesApplyCard : Claim7 := { stood := { row := propagationChangesApplyRow, standIns := [], harness := (true, "f47b919c7c00ceb55df9ddb823167be6932daa3cc7337033ae979d7ca60d7634"), looks := true }, kinds := [], alts := [], laidByText := true, laidKinds := [.data, .data, .data, .sentinel, .sentinel], laidTests := true, laidLooks := .later }
def PropagationChangesApplyCardSaid : Prop := Claim7.holds Tryz.pinned (.plain (OpenSpec.ofChange propagationChangesApplySpec)) propagationChangesApplyCard

/-- THE TIED CARD OF 'stemkeep1.TxnCommitOfFreshTransaction'. -/
def txnCommitOfFreshTransactionCard : Claim7 := { stood := { row := txnCommitOfFreshTransactionRow, standIns := [], harness := (true, "f47b919c7c00ceb55df9ddb823167be6932daa3cc7337033ae979d7ca60d7634"), looks := true }, kinds := [], alts := [], laidByText := true, laidKinds := [.data, .data, .data, .sentinel, .sentinel], laidTests := true, laidLooks := .later }
def TxnCommitOfFreshTransactionCardSaid : Prop := Claim7.holds Tryz.pinned (.plain (OpenSpec.ofChange txnCommitOfFreshTransactionSpec)) txnCommitOfFreshTransactionCard

/-- THE TIED CARD OF 'stemkeep1.TxnFirstCommitterWins'. -/
def txnFirstCommitterWinsCard : Claim7 := { stood := { row := txnFirstCommitterWinsRow, standIns := [], harness := (true, "f47b919c7c00ceb55df9ddb823167be6932daa3cc7337033ae979d7ca60d7634"), looks := true }, kinds := [], alts := [], laidByText := true, laidKinds := [.data, .data, .data, .sentinel, .sentinel], laidTests := true, laidLooks := .later }
def TxnFirstCommitterWinsCardSaid : Prop := Claim7.holds Tryz.pinned (.plain (OpenSpec.ofChange txnFirstCommitterWinsSpec)) txnFirstCommitterWinsCard

/-- THE SECOND FORM's CARD OF 'stemkeep1.RetentionUnusedCanBeDropped'. -/
def retentionUnusedCanBeDroppedUptoCard : Claim7 := { stood := { row := retentionUnusedCanBeDroppedUptoRow, standIns := [], harness := (true, "f47b919c7c00ceb55df9ddb823167be6932daa3cc7337033ae979d7ca60d7634"), looks := true }, kinds := [], alts := [], laidByText := true, laidKinds := [.data, .data, .data, .sentinel, .sentinel], laidTests := true, laidLooks := .later }
def RetentionUnusedCanBeDroppedUptoCardSaid : Prop := Claim7.holds Tryz.pinned (.plain (OpenSpec.upto retentionUnusedCanBeDroppedSpec)) retentionUnusedCanBeDroppedUptoCard

/-- THE SECOND FORM's CARD OF 'stemkeep1.RetentionNewVersionLosesNothing'. -/
def retentionNewVersionLosesNothingUptoCard : Claim7 := { stood := { row := retentionNewVersionLosesNothingUptoRow, standIns := [], harness := (true, "f47b919c7c00ceb55df9ddb823167be6932daa3cc7337033ae979d7ca60d7634"), looks := true }, kinds := [], alts := [], laidByText := true, laidKinds := [.data, .data, .data, .sentinel, .sentinel], laidTests := true, laidLooks := .later }
def RetentionNewVersionLosesNothingUptoCardSaid : Prop := Claim7.holds Tryz.pinned (.plain (OpenSpec.upto retentionNewVersionLosesNothingSpec)) retentionNewVersionLosesNothingUptoCard

/-- THE SECOND FORM's CARD OF 'stemkeep1.DatabaseEvolvePreservesVersions'. -/
def databaseEvolvePreservesVersionsUptoCard : Claim7 := { stood := { row := databaseEvolvePreservesVersionsUptoRow, standIns := [], harness := (true, "f47b919c7c00ceb55df9ddb823167be6932daa3cc7337033ae979d7ca60d7634"), looks := true }, kinds := [], alts := [], laidByText := true, laidKinds := [.data, .data, .data, .sentinel, .sentinel], laidTests := true, laidLooks := .later }
def DatabaseEvolvePreservesVersionsUptoCardSaid : Prop := Claim7.holds Tryz.pinned (.plain (OpenSpec.upto databaseEvolvePreservesVersionsSpec)) databaseEvolvePreservesVersionsUptoCard

/-- THE SECOND FORM's CARD OF 'stemkeep1.DatabaseEvolveThenWrite'. -/
def databaseEvolveThenWriteUptoCard : Claim7 := { stood := { row := databaseEvolveThenWriteUptoRow, standIns := [], harness := (true, "f47b919c7c00ceb55df9ddb823167be6932daa3cc7337033ae979d7ca60d7634"), looks := true }, kinds := [], alts := [], laidByText := true, laidKinds := [.data, .data, .data, .sentinel, .sentinel], laidTests := true, laidLooks := .later }
def DatabaseEvolveThenWriteUptoCardSaid : Prop := Claim7.holds Tryz.pinned (.plain (OpenSpec.upto databaseEvolveThenWriteSpec)) databaseEvolveThenWriteUptoCard

/-- THE SECOND FORM's CARD OF 'stemkeep1.PropagationInverseRestores'. -/
def propagationInverseRestoresUptoCard : Claim7 := { stood := { row := propagationInverseRestoresUptoRow, standIns := [], harness := (true, "f47b919c7c00ceb55df9ddb823167be6932daa3cc7337033ae979d7ca60d7634"), looks := true }, kinds := [], alts := [], laidByText := true, laidKinds := [.data, .data, .data, .sentinel, .sentinel], laidTests := true, laidLooks := .later }
def PropagationInverseRestoresUptoCardSaid : Prop := Claim7.holds Tryz.pinned (.plain (OpenSpec.upto propagationInverseRestoresSpec)) propagationInverseRestoresUptoCard

/-- THE SECOND FORM's CARD OF 'stemkeep1.PropagationChangesApply'. -/
def propagationChangesApplyUptoCard : Claim7 := { stood := { row := propagationChangesApplyUptoRow, standIns := [], harness := (true, "f47b919c7c00ceb55df9ddb823167be6932daa3cc7337033ae979d7ca60d7634"), looks := true }, kinds := [], alts := [], laidByText := true, laidKinds := [.data, .data, .data, .sentinel, .sentinel], laidTests := true, laidLooks := .later }
def PropagationChangesApplyUptoCardSaid : Prop := Claim7.holds Tryz.pinned (.plain (OpenSpec.upto propagationChangesApplySpec)) propagationChangesApplyUptoCard

/-- THE SECOND FORM's CARD OF 'stemkeep1.TxnCommitOfFreshTransaction'. -/
def txnCommitOfFreshTransactionUptoCard : Claim7 := { stood := { row := txnCommitOfFreshTransactionUptoRow, standIns := [], harness := (true, "f47b919c7c00ceb55df9ddb823167be6932daa3cc7337033ae979d7ca60d7634"), looks := true }, kinds := [], alts := [], laidByText := true, laidKinds := [.data, .data, .data, .sentinel, .sentinel], laidTests := true, laidLooks := .later }
def TxnCommitOfFreshTransactionUptoCardSaid : Prop := Claim7.holds Tryz.pinned (.plain (OpenSpec.upto txnCommitOfFreshTransactionSpec)) txnCommitOfFreshTransactionUptoCard

/-- THE SECOND FORM's CARD OF 'stemkeep1.TxnFirstCommitterWins'. -/
def txnFirstCommitterWinsUptoCard : Claim7 := { stood := { row := txnFirstCommitterWinsUptoRow, standIns := [], harness := (true, "f47b919c7c00ceb55df9ddb823167be6932daa3cc7337033ae979d7ca60d7634"), looks := true }, kinds := [], alts := [], laidByText := true, laidKinds := [.data, .data, .data, .sentinel, .sentinel], laidTests := true, laidLooks := .later }
def TxnFirstCommitterWinsUptoCardSaid : Prop := Claim7.holds Tryz.pinned (.plain (OpenSpec.upto txnFirstCommitterWinsSpec)) txnFirstCommitterWinsUptoCard
end Rows
end Go.Proofs.YtbkdloikgbgcfaaGreatDoor
