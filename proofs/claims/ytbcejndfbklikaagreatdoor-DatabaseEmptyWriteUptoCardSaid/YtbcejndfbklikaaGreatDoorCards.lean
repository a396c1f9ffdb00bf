/-
  DERIVED. GIVEN WITH THE SEED: THE CARDS: each row of YtbcejndfbklikaaGreatDoorRows.lean that lists a variable, with what it lists TIED to the program's text (the seventh form; the later family's looks); each row that meets fmt, with fmt's text TOLD by the authors' own Lean function (tested against real Go, not proved from fmt's source: count such statements apart). THE CARD IS WHAT COUNTS. Prove the row's statement (the work); the ties are given (YtbcejndfbklikaaGreatDoorTie.lean); close each card by the builder's one call (the guide's Derived/Test/ToyasCard.lean, 'card_holds'). Laid BY PROGRAM, IN A SANDBOX (cutbox-door.mjs). By AI agents, Wed Nov 11 2026. No macro, syntax, notation, axiom, sorry.
-/
import Derived.Test.YtbcejndfbklikaaGreatDoorRows
import GoSem.ClaimSeven
namespace Go.Proofs.YtbcejndfbklikaaGreatDoor
namespace Rows

/-- THE TIED CARD OF 'stemkeep1.DatabaseWritePreservesValidity'. -/
def databaseWritePreservesValidityCard : Claim7 := { stood := { row := databaseWritePreservesValidityRow, standIns := [], harness := (true, "8ce59a95997424c48bd515b9d3c6c800ff0b9f6b83ee267cd8717c91c495a7c9"), looks := true }, kinds := [], alts := [], laidByText := true, laidKinds := [.data, .data, .data, .sentinel, .sentinel], laidTests := true, laidLooks := .later }
def DatabaseWritePreservesValidityCardSaid : Prop := Claim7.holds Tryz.pinned (.plain (OpenSpec.ofChange databaseWritePreservesValiditySpec)) databaseWritePreservesValidityCard

/-- THE TIED CARD OF 'stemkeep1.DatabaseReadYourWrites'. -/
def databaseReadYourWritesCard : Claim7 := { stood := { row := databaseReadYourWritesRow, standIns := [], harness := (true, "8ce59a95997424c48bd515b9d3c6c800ff0b9f6b83ee267cd8717c91c495a7c9"), looks := true }, kinds := [], alts := [], laidByText := true, laidKinds := [.data, .data, .data, .sentinel, .sentinel], laidTests := true, laidLooks := .later }
def DatabaseReadYourWritesCardSaid : Prop := Claim7.holds Tryz.pinned (.plain (OpenSpec.ofChange databaseReadYourWritesSpec)) databaseReadYourWritesCard

/-- THE TIED CARD OF 'stemkeep1.DatabaseEmptyWrite'. -/
def databaseEmptyWriteCard : Claim7 := { stood := { row := databaseEmptyWriteRow, standIns := [], harness := (true, "8ce59a95997424c48bd515b9d3c6c800ff0b9f6b83ee267cd8717c91c495a7c9"), looks := true }, kinds := [], alts := [], laidByText := true, laidKinds := [.data, .data, .data, .sentinel, .sentinel], laidTests := true, laidLooks := .later }
def DatabaseEmptyWriteCardSaid : Prop := Claim7.holds Tryz.pinned (.plain (OpenSpec.ofChange databaseEmptyWriteSpec)) databaseEmptyWriteCard

/-- THE TIED CARD OF 'stemkeep1.DatabaseRejectionIsFirst'. -/
def databaseRejectionIsFirstCard : Claim7 := { stood := { row := databaseRejectionIsFirstRow, standIns := [], harness := (true, "8ce59a95997424c48bd515b9d3c6c800ff0b9f6b83ee267cd8717c91c495a7c9"), looks := true }, kinds := [], alts := [], laidByText := true, laidKinds := [.data, .data, .data, .sentinel, .sentinel], laidTests := true, laidLooks := .later }
def DatabaseRejectionIsFirstCardSaid : Prop := Claim7.holds Tryz.pinned (.plain (OpenSpec.ofChange databaseRejectionIsFirstSpec)) databaseRejectionIsFirstCard

/-- THE TIED CARD OF 'stemkeep1.DatabaseNewIsValid'. -/
def databaseNewIsValidCard : Claim7 := { stood := { row := databaseNewIsValidRow, standIns := [], harness := (true, "8ce59a95997424c48bd515b9d3c6c800ff0b9f6b83ee267cd8717c91c495a7c9"), looks := true }, kinds := [], alts := [], laidByText := true, laidKinds := [.data, .data, .data, .sentinel, .sentinel], laidTests := true, laidLooks := .later }
def DatabaseNewIsValidCardSaid : Prop := Claim7.holds Tryz.pinned (.plain (OpenSpec.ofChange databaseNewIsValidSpec)) databaseNewIsValidCard

/-- THE TIED CARD OF 'stemkeep1.AdmissionRejectsIffWriteFails'. -/
def admissionRejectsIffWriteFailsCard : Claim7 := { stood := { row := admissionRejectsIffWriteFailsRow, standIns := [], harness := (true, "8ce59a95997424c48bd515b9d3c6c800ff0b9f6b83ee267cd8717c91c495a7c9"), looks := true }, kinds := [], alts := [], laidByText := true, laidKinds := [.data, .data, .data, .sentinel, .sentinel], laidTests := true, laidLooks := .later }
def AdmissionRejectsIffWriteFailsCardSaid : Prop := Claim7.holds Tryz.pinned (.plain (OpenSpec.ofChange admissionRejectsIffWriteFailsSpec)) admissionRejectsIffWriteFailsCard

/-- THE SECOND FORM's CARD OF 'stemkeep1.DatabaseWritePreservesValidity'. -/
def databaseWritePreservesValidityUptoCard : Claim7 := { stood := { row := databaseWritePreservesValidityUptoRow, standIns := [], harness := (true, "8ce59a95997424c48bd515b9d3c6c800ff0b9f6b83ee267cd8717c91c495a7c9"), looks := true }, kinds := [], alts := [], laidByText := true, laidKinds := [.data, .data, .data, .sentinel, .sentinel], laidTests := true, laidLooks := .later }
def DatabaseWritePreservesValidityUptoCardSaid : Prop := Claim7.holds Tryz.pinned (.plain (OpenSpec.upto databaseWritePreservesValiditySpec)) databaseWritePreservesValidityUptoCard

/-- THE SECOND FORM's CARD OF 'stemkeep1.DatabaseReadYourWrites'. -/
def databaseReadYourWritesUptoCard : Claim7 := { stood := { row := databaseReadYourWritesUptoRow, standIns := [], harness := (true, "8ce59a95997424c48bd515b9d3c6c800ff0b9f6b83ee267cd8717c91c495a7c9"), looks := true }, kinds := [], alts := [], laidByText := true, laidKinds := [.data, .data, .data, .sentinel, .sentinel], laidTests := true, laidLooks := .later }
def DatabaseReadYourWritesUptoCardSaid : Prop := Claim7.holds Tryz.pinned (.plain (OpenSpec.upto databaseReadYourWritesSpec)) databaseReadYourWritesUptoCard

/-- THE SECOND FORM's CARD OF 'stemkeep1.DatabaseEmptyWrite'. -/
def databaseEmptyWriteUptoCard : Claim7 := { stood := { row := databaseEmptyWriteUptoRow, standIns := [], harness := (true, "8ce59a95997424c48bd515b9d3c6c800ff0b9f6b83ee267cd8717c91c495a7c9"), looks := true }, kinds := [], alts := [], laidByText := true, laidKinds := [.data, .data, .data, .sentinel, .sentinel], laidTests := true, laidLooks := .later }
def DatabaseEmptyWriteUptoCardSaid : Prop := Claim7.holds Tryz.pinned (.plain (OpenSpec.upto databaseEmptyWriteSpec)) databaseEmptyWriteUptoCard

/-- THE SECOND FORM's CARD OF 'stemkeep1.DatabaseRejectionIsFirst'. -/
def databaseRejectionIsFirstUptoCard : Claim7 := { stood := { row := databaseRejectionIsFirstUptoRow, standIns := [], harness := (true, "8ce59a95997424c48bd515b9d3c6c800ff0b9f6b83ee267cd8717c91c495a7c9"), looks := true }, kinds := [], alts := [], laidByText := true, laidKinds := [.data, .data, .data, .sentinel, .sentinel], laidTests := true, laidLooks := .later }
def DatabaseRejectionIsFirstUptoCardSaid : Prop := Claim7.holds Tryz.pinned (.plain (OpenSpec.upto databaseRejectionIsFirstSpec)) databaseRejectionIsFirstUptoCard

/-- THE SECOND FORM's CARD OF 'stemkeep1.DatabaseNewIsValid'. -/
def databaseNewIsValidUptoCard : Claim7 := { stood := { row := databaseNewIsValidUptoRow, standIns := [], harness := (true, "8ce59a95997424c48bd515b9d3c6c800ff0b9f6b83ee267cd8717c91c495a7c9"), looks := true }, kinds := [], alts := [], laidByText := true, laidKinds := [.data, .data, .data, .sentinel, .sentinel], laidTests := true, laidLooks := .later }
def DatabaseNewIsValidUptoCardSaid : Prop := Claim7.holds Tryz.pinned (.plain (OpenSpec.upto databaseNewIsValidSpec)) databaseNewIsValidUptoCard

/-- THE SECOND FORM's CARD OF 'stemkeep1.AdmissionRejectsIffWriteFails'. -/
def admissionRejectsIffWriteFailsUptoCard : Claim7 := { stood := { row := admissionRejectsIffWriteFailsUptoRow, standIns := [], harness := (true, "8ce59a95997424c48bd515b9d3c6c800ff0b9f6b83ee267cd8717c91c495a7c9"), looks := true }, kinds := [], alts := [], laidByText := true, laidKinds := [.data, .data, .data, .sentinel, .sentinel], laidTests := true, laidLooks := .later }
def AdmissionRejectsIffWriteFailsUptoCardSaid : Prop := Claim7.holds Tryz.pinned (.plain (OpenSpec.upto admissionRejectsIffWriteFailsSpec)) admissionRejectsIffWriteFailsUptoCard
end Rows
end Go.Proofs.YtbcejndfbklikaaGreatDoor
