/-
  DERIVED. GIVEN WITH THE SEED: THE CARDS: each row of YtaafcniehplceaaGreatDoorRows.lean that lists a variable, with what it lists TIED to the program's text (the seventh form; the later family's looks); each row that meets fmt, with fmt's text TOLD by the authors' own Lean function (tested against real Go, not proved from fmt's source: count such statements apart). THE CARD IS WHAT COUNTS. Prove the row's statement (the work); the ties are given (YtaafcniehplceaaGreatDoorTie.lean); close each card by the builder's one call (the guide's Derived/Test/ToyasCard.lean, 'card_holds'). Laid BY PROGRAM, IN A SANDBOX (cutbox-door.mjs). By AI agents, Wed Nov 11 2026. No macro, syntax, notation, axiom, sorry.
-/
import Derived.Test.YtaafcniehplceaaGreatDoorRows
import GoSem.ClaimSeven
namespace Go.Proofs.YtaafcniehplceaaGreatDoor
namespace Rows

/-- THE TIED CARD OF 'stemkeep1.DatabaseWritePreservesValidity'. -/
def databaseWritePreservesValidityCard : Claim7 := { stood := { row := databaseWritePreservesValidityRow, standIns := [], harness := (true, "42b58869e4006900e62bb35b11db9c26226250fe2e473d7d0dd935a8cca6040e"), looks := true }, kinds := [], alts := [], laidByText := true, laidKinds := [.data, .data, .data, .sentinel, .sentinel], laidTests := true, laidLooks := .later }
def DatabaseWritePreservesValidityCardSaid : Prop := Claim7.holds Tryz.pinned (.plain (OpenSpec.ofChange databaseWritePreservesValiditySpec)) databaseWritePreservesValidityCard

/-- THE TIED CARD OF 'stemkeep1.DatabaseReadYourWrites'. -/
def databaseReadYourWritesCard : Claim7 := { stood := { row := databaseReadYourWritesRow, standIns := [], harness := (true, "42b58869e4006900e62bb35b11db9c26226250fe2e473d7d0dd935a8cca6040e"), looks := true }, kinds := [], alts := [], laidByText := true, laidKinds := [.data, .data, .data, .sentinel, .sentinel], laidTests := true, laidLooks := .later }
def DatabaseReadYourWritesCardSaid : Prop := Claim7.holds Tryz.pinned (.plain (OpenSpec.ofChange databaseReadYourWritesSpec)) databaseReadYourWritesCard

/-- THE TIED CARD OF 'stemkeep1.DatabaseRewriteIsIdempotent'. -/
def databaseRewriteIsIdempotentCard : Claim7 := { stood := { row := databaseRewriteIsIdempotentRow, standIns := [], harness := (true, "42b58869e4006900e62bb35b11db9c26226250fe2e473d7d0dd935a8cca6040e"), looks := true }, kinds := [], alts := [], laidByText := true, laidKinds := [.data, .data, .data, .sentinel, .sentinel], laidTests := true, laidLooks := .later }
def DatabaseRewriteIsIdempotentCardSaid : Prop := Claim7.holds Tryz.pinned (.plain (OpenSpec.ofChange databaseRewriteIsIdempotentSpec)) databaseRewriteIsIdempotentCard

/-- THE TIED CARD OF 'stemkeep1.AdmissionReplayComposes'. -/
def admissionReplayComposesCard : Claim7 := { stood := { row := admissionReplayComposesRow, standIns := [], harness := (true, "42b58869e4006900e62bb35b11db9c26226250fe2e473d7d0dd935a8cca6040e"), looks := true }, kinds := [], alts := [], laidByText := true, laidKinds := [.data, .data, .data, .sentinel, .sentinel], laidTests := true, laidLooks := .later }
def AdmissionReplayComposesCardSaid : Prop := Claim7.holds Tryz.pinned (.plain (OpenSpec.ofChange admissionReplayComposesSpec)) admissionReplayComposesCard

/-- THE TIED CARD OF 'stemkeep1.DatabaseEvolvePreservesVersions'. -/
def databaseEvolvePreservesVersionsCard : Claim7 := { stood := { row := databaseEvolvePreservesVersionsRow, standIns := [], harness := (true, "42b58869e4006900e62bb35b11db9c26226250fe2e473d7d0dd935a8cca6040e"), looks := true }, kinds := [], alts := [], laidByText := true, laidKinds := [.data, .data, .data, .sentinel, .sentinel], laidTests := true, laidLooks := .later }
def DatabaseEvolvePreservesVersionsCardSaid : Prop := Claim7.holds Tryz.pinned (.plain (OpenSpec.ofChange databaseEvolvePreservesVersionsSpec)) databaseEvolvePreservesVersionsCard

/-- THE TIED CARD OF 'stemkeep1.DatabaseEvolveThenWrite'. -/
def databaseEvolveThenWriteCard : Claim7 := { stood := { row := databaseEvolveThenWriteRow, standIns := [], harness := (true, "42b58869e4006900e62bb35b11db9c26226250fe2e473d7d0dd935a8cca6040e"), looks := true }, kinds := [], alts := [], laidByText := true, laidKinds := [.data, .data, .data, .sentinel, .sentinel], laidTests := true, laidLooks := .later }
def DatabaseEvolveThenWriteCardSaid : Prop := Claim7.holds Tryz.pinned (.plain (OpenSpec.ofChange databaseEvolveThenWriteSpec)) databaseEvolveThenWriteCard

/-- THE SECOND FORM's CARD OF 'stemkeep1.DatabaseWritePreservesValidity'. -/
def databaseWritePreservesValidityUptoCard : Claim7 := { stood := { row := databaseWritePreservesValidityUptoRow, standIns := [], harness := (true, "42b58869e4006900e62bb35b11db9c26226250fe2e473d7d0dd935a8cca6040e"), looks := true }, kinds := [], alts := [], laidByText := true, laidKinds := [.data, .data, .data, .sentinel, .sentinel], laidTests := true, laidLooks := .later }
def DatabaseWritePreservesValidityUptoCardSaid : Prop := Claim7.holds Tryz.pinned (.plain (OpenSpec.upto databaseWritePreservesValiditySpec)) databaseWritePreservesValidityUptoCard

/-- THE SECOND FORM's CARD OF 'stemkeep1.DatabaseReadYourWrites'. -/
def databaseReadYourWritesUptoCard : Claim7 := { stood := { row := databaseReadYourWritesUptoRow, standIns := [], harness := (true, "42b58869e4006900e62bb35b11db9c26226250fe2e473d7d0dd935a8cca6040e"), looks := true }, kinds := [], alts := [], laidByText := true, laidKinds := [.data, .data, .data, .sentinel, .sentinel], laidTests := true, laidLooks := .later }
def DatabaseReadYourWritesUptoCardSaid : Prop := Claim7.holds Tryz.pinned (.plain (OpenSpec.upto databaseReadYourWritesSpec)) databaseReadYourWritesUptoCard

/-- THE SECOND FORM's CARD OF 'stemkeep1.DatabaseRewriteIsIdempotent'. -/
def databaseRewriteIsIdempotentUptoCard : Claim7 := { stood := { row := databaseRewriteIsIdempotentUptoRow, standIns := [], harness := (true, "42b58869e4006900e62bb35b11db9c26226250fe2e473d7d0dd935a8cca6040e"), looks := true }, kinds := [], alts := [], laidByText := true, laidKinds := [.data, .data, .data, .sentinel, .sentinel], laidTests := true, laidLooks := .later }
def DatabaseRewriteIsIdempotentUptoCardSaid : Prop := Claim7.holds Tryz.pinned (.plain (OpenSpec.upto databaseRewriteIsIdempotentSpec)) databaseRewriteIsIdempotentUptoCard

/-- THE SECOND FORM's CARD OF 'stemkeep1.AdmissionReplayComposes'. -/
def admissionReplayComposesUptoCard : Claim7 := { stood := { row := admissionReplayComposesUptoRow, standIns := [], harness := (true, "42b58869e4006900e62bb35b11db9c26226250fe2e473d7d0dd935a8cca6040e"), looks := true }, kinds := [], alts := [], laidByText := true, laidKinds := [.data, .data, .data, .sentinel, .sentinel], laidTests := true, laidLooks := .later }
def AdmissionReplayComposesUptoCardSaid : Prop := Claim7.holds Tryz.pinned (.plain (OpenSpec.upto admissionReplayComposesSpec)) admissionReplayComposesUptoCard

/-- THE SECOND FORM's CARD OF 'stemkeep1.DatabaseEvolvePreservesVersions'. -/
def databaseEvolvePreservesVersionsUptoCard : Claim7 := { stood := { row := databaseEvolvePreservesVersionsUptoRow, standIns := [], harness := (true, "42b58869e4006900e62bb35b11db9c26226250fe2e473d7d0dd935a8cca6040e"), looks := true }, kinds := [], alts := [], laidByText := true, laidKinds := [.data, .data, .data, .sentinel, .sentinel], laidTests := true, laidLooks := .later }
def DatabaseEvolvePreservesVersionsUptoCardSaid : Prop := Claim7.holds Tryz.pinned (.plain (OpenSpec.upto databaseEvolvePreservesVersionsSpec)) databaseEvolvePreservesVersionsUptoCard

/-- THE SECOND FORM's CARD OF 'stemkeep1.DatabaseEvolveThenWrite'. -/
def databaseEvolveThenWriteUptoCard : Claim7 := { stood := { row := databaseEvolveThenWriteUptoRow, standIns := [], harness := (true, "42b58869e4006900e62bb35b11db9c26226250fe2e473d7d0dd935a8cca6040e"), looks := true }, kinds := [], alts := [], laidByText := true, laidKinds := [.data, .data, .data, .sentinel, .sentinel], laidTests := true, laidLooks := .later }
def DatabaseEvolveThenWriteUptoCardSaid : Prop := Claim7.holds Tryz.pinned (.plain (OpenSpec.upto databaseEvolveThenWriteSpec)) databaseEvolveThenWriteUptoCard
end Rows
end Go.Proofs.YtaafcniehplceaaGreatDoor
