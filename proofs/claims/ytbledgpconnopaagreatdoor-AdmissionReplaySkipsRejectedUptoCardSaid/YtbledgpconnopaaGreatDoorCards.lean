/-
  DERIVED. GIVEN WITH THE SEED: THE CARDS: each row of YtbledgpconnopaaGreatDoorRows.lean that lists a variable, with what it lists TIED to the program's text (the seventh form; the later family's looks); each row that meets fmt, with fmt's text TOLD by the authors' own Lean function (tested against real Go, not proved from fmt's source: count such statements apart). THE CARD IS WHAT COUNTS. Prove the row's statement (the work); the ties are given (YtbledgpconnopaaGreatDoorTie.lean); close each card by the builder's one call (the guide's Derived/Test/ToyasCard.lean, 'card_holds'). Laid BY PROGRAM, IN A SANDBOX (cutbox-door.mjs). By AI agents, Wed Nov 11 2026. No macro, syntax, notation, axiom, sorry.
-/
import Derived.Test.YtbledgpconnopaaGreatDoorRows
import GoSem.ClaimSeven
namespace Go.Proofs.YtbledgpconnopaaGreatDoor
namespace Rows

/-- THE TIED CARD OF 'stemkeep1.AdmissionReplaySkipsRejected'. -/
def admissionReplaySkipsRejectedCard : Claim7 := { stood := { row := admissionReplaySkipsRejectedRow, standIns := [], harness := (true, "f2cf27cd20d4d329400ec97c531a38cf15da1f32fe431d1097f03a54785c6852"), looks := true }, kinds := [], alts := [], laidByText := true, laidKinds := [.data, .data, .data, .sentinel, .sentinel], laidTests := true, laidLooks := .later }
def AdmissionReplaySkipsRejectedCardSaid : Prop := Claim7.holds Tryz.pinned (.plain (OpenSpec.ofChange admissionReplaySkipsRejectedSpec)) admissionReplaySkipsRejectedCard

/-- THE TIED CARD OF 'stemkeep1.PropagationCommuteIsSymmetric'. -/
def propagationCommuteIsSymmetricCard : Claim7 := { stood := { row := propagationCommuteIsSymmetricRow, standIns := [], harness := (true, "f2cf27cd20d4d329400ec97c531a38cf15da1f32fe431d1097f03a54785c6852"), looks := true }, kinds := [], alts := [], laidByText := true, laidKinds := [.data, .data, .data, .sentinel, .sentinel], laidTests := true, laidLooks := .later }
def PropagationCommuteIsSymmetricCardSaid : Prop := Claim7.holds Tryz.pinned (.plain (OpenSpec.ofChange propagationCommuteIsSymmetricSpec)) propagationCommuteIsSymmetricCard

/-- THE TIED CARD OF 'stemkeep1.PropagationInverseRestores'. -/
def propagationInverseRestoresCard : Claim7 := { stood := { row := propagationInverseRestoresRow, standIns := [], harness := (true, "f2cf27cd20d4d329400ec97c531a38cf15da1f32fe431d1097f03a54785c6852"), looks := true }, kinds := [], alts := [], laidByText := true, laidKinds := [.data, .data, .data, .sentinel, .sentinel], laidTests := true, laidLooks := .later }
def PropagationInverseRestoresCardSaid : Prop := Claim7.holds Tryz.pinned (.plain (OpenSpec.ofChange propagationInverseRestoresSpec)) propagationInverseRestoresCard

/-- THE TIED CARD OF 'stemkeep1.PropagationChangesApply'. -/
def propagationChangesApplyCard : Claim7 := { stood := { row := propagationChangesApplyRow, standIns := [], harness := (true, "f2cf27cd20d4d329400ec97c531a38cf15da1f32fe431d1097f03a54785c6852"), looks := true }, kinds := [], alts := [], laidByText := true, laidKinds := [.data, .data, .data, .sentinel, .sentinel], laidTests := true, laidLooks := .later }
def PropagationChangesApplyCardSaid : Prop := Claim7.holds Tryz.pinned (.plain (OpenSpec.ofChange propagationChangesApplySpec)) propagationChangesApplyCard

/-- THE TIED CARD OF 'stemkeep1.PropagationAffectedIsExact'. -/
def propagationAffectedIsExactCard : Claim7 := { stood := { row := propagationAffectedIsExactRow, standIns := [], harness := (true, "f2cf27cd20d4d329400ec97c531a38cf15da1f32fe431d1097f03a54785c6852"), looks := true }, kinds := [], alts := [], laidByText := true, laidKinds := [.data, .data, .data, .sentinel, .sentinel], laidTests := true, laidLooks := .later }
def PropagationAffectedIsExactCardSaid : Prop := Claim7.holds Tryz.pinned (.plain (OpenSpec.ofChange propagationAffectedIsExactSpec)) propagationAffectedIsExactCard

/-- THE SECOND FORM's CARD OF 'stemkeep1.AdmissionReplaySkipsRejected'. -/
def admissionReplaySkipsRejectedUptoCard : Claim7 := { stood := { row := admissionReplaySkipsRejectedUptoRow, standIns := [], harness := (true, "f2cf27cd20d4d329400ec97c531a38cf15da1f32fe431d1097f03a54785c6852"), looks := true }, kinds := [], alts := [], laidByText := true, laidKinds := [.data, .data, .data, .sentinel, .sentinel], laidTests := true, laidLooks := .later }
def AdmissionReplaySkipsRejectedUptoCardSaid : Prop := Claim7.holds Tryz.pinned (.plain (OpenSpec.upto admissionReplaySkipsRejectedSpec)) admissionReplaySkipsRejectedUptoCard

/-- THE SECOND FORM's CARD OF 'stemkeep1.PropagationCommuteIsSymmetric'. -/
def propagationCommuteIsSymmetricUptoCard : Claim7 := { stood := { row := propagationCommuteIsSymmetricUptoRow, standIns := [], harness := (true, "f2cf27cd20d4d329400ec97c531a38cf15da1f32fe431d1097f03a54785c6852"), looks := true }, kinds := [], alts := [], laidByText := true, laidKinds := [.data, .data, .data, .sentinel, .sentinel], laidTests := true, laidLooks := .later }
def PropagationCommuteIsSymmetricUptoCardSaid : Prop := Claim7.holds Tryz.pinned (.plain (OpenSpec.upto propagationCommuteIsSymmetricSpec)) propagationCommuteIsSymmetricUptoCard

/-- THE SECOND FORM's CARD OF 'stemkeep1.PropagationInverseRestores'. -/
def propagationInverseRestoresUptoCard : Claim7 := { stood := { row := propagationInverseRestoresUptoRow, standIns := [], harness := (true, "f2cf27cd20d4d329400ec97c531a38cf15da1f32fe431d1097f03a54785c6852"), looks := true }, kinds := [], alts := [], laidByText := true, laidKinds := [.data, .data, .data, .sentinel, .sentinel], laidTests := true, laidLooks := .later }
def PropagationInverseRestoresUptoCardSaid : Prop := Claim7.holds Tryz.pinned (.plain (OpenSpec.upto propagationInverseRestoresSpec)) propagationInverseRestoresUptoCard

/-- THE SECOND FORM's CARD OF 'stemkeep1.PropagationChangesApply'. -/
def propagationChangesApplyUptoCard : Claim7 := { stood := { row := propagationChangesApplyUptoRow, standIns := [], harness := (true, "f2cf27cd20d4d329400ec97c531a38cf15da1f32fe431d1097f03a54785c6852"), looks := true }, kinds := [], alts := [], laidByText := true, laidKinds := [.data, .data, .data, .sentinel, .sentinel], laidTests := true, laidLooks := .later }
def PropagationChangesApplyUptoCardSaid : Prop := Claim7.holds Tryz.pinned (.plain (OpenSpec.upto propagationChangesApplySpec)) propagationChangesApplyUptoCard

/-- THE SECOND FORM's CARD OF 'stemkeep1.PropagationAffectedIsExact'. -/
def propagationAffectedIsExactUptoCard : Claim7 := { stood := { row := propagationAffectedIsExactUptoRow, standIns := [], harness := (true, "f2cf27cd20d4d329400ec97c531a38cf15da1f32fe431d1097f03a54785c6852"), looks := true }, kinds := [], alts := [], laidByText := true, laidKinds := [.data, .data, .data, .sentinel, .sentinel], laidTests := true, laidLooks := .later }
def PropagationAffectedIsExactUptoCardSaid : Prop := Claim7.holds Tryz.pinned (.plain (OpenSpec.upto propagationAffectedIsExactSpec)) propagationAffectedIsExactUptoCard
end Rows
end Go.Proofs.YtbledgpconnopaaGreatDoor
