/-
  DERIVED. GIVEN WITH THE SEED: THE CARDS: each row of YtbicbojfaghjcaaGreatDoorRows.lean that lists a variable, with what it lists TIED to the program's text (the seventh form; the later family's looks); each row that meets fmt, with fmt's text TOLD by the authors' own Lean function (tested against real Go, not proved from fmt's source: count such statements apart). THE CARD IS WHAT COUNTS. Prove the row's statement (the work); the ties are given (YtbicbojfaghjcaaGreatDoorTie.lean); close each card by the builder's one call (the guide's Derived/Test/ToyasCard.lean, 'card_holds'). Laid BY PROGRAM, IN A SANDBOX (cutbox-door.mjs). By AI agents, Wed Nov 11 2026. No macro, syntax, notation, axiom, sorry.
-/
import Derived.Test.YtbicbojfaghjcaaGreatDoorRows
import GoSem.ClaimSeven
namespace Go.Proofs.YtbicbojfaghjcaaGreatDoor
namespace Rows

/-- THE TIED CARD OF 'stemkeep1.RetentionUnusedCanBeDropped'. -/
def retentionUnusedCanBeDroppedCard : Claim7 := { stood := { row := retentionUnusedCanBeDroppedRow, standIns := [], harness := (true, "6b0488e520013ad99f18f23e6d2089dcfbeeb951f0fd539958511904b9bd6c9b"), looks := true }, kinds := [], alts := [], laidByText := true, laidKinds := [.data, .data, .data, .sentinel, .sentinel], laidTests := true, laidLooks := .later }
def RetentionUnusedCanBeDroppedCardSaid : Prop := Claim7.holds Tryz.pinned (.plain (OpenSpec.ofChange retentionUnusedCanBeDroppedSpec)) retentionUnusedCanBeDroppedCard

/-- THE TIED CARD OF 'stemkeep1.RetentionNewVersionLosesNothing'. -/
def retentionNewVersionLosesNothingCard : Claim7 := { stood := { row := retentionNewVersionLosesNothingRow, standIns := [], harness := (true, "6b0488e520013ad99f18f23e6d2089dcfbeeb951f0fd539958511904b9bd6c9b"), looks := true }, kinds := [], alts := [], laidByText := true, laidKinds := [.data, .data, .data, .sentinel, .sentinel], laidTests := true, laidLooks := .later }
def RetentionNewVersionLosesNothingCardSaid : Prop := Claim7.holds Tryz.pinned (.plain (OpenSpec.ofChange retentionNewVersionLosesNothingSpec)) retentionNewVersionLosesNothingCard

/-- THE SECOND FORM's CARD OF 'stemkeep1.RetentionUnusedCanBeDropped'. -/
def retentionUnusedCanBeDroppedUptoCard : Claim7 := { stood := { row := retentionUnusedCanBeDroppedUptoRow, standIns := [], harness := (true, "6b0488e520013ad99f18f23e6d2089dcfbeeb951f0fd539958511904b9bd6c9b"), looks := true }, kinds := [], alts := [], laidByText := true, laidKinds := [.data, .data, .data, .sentinel, .sentinel], laidTests := true, laidLooks := .later }
def RetentionUnusedCanBeDroppedUptoCardSaid : Prop := Claim7.holds Tryz.pinned (.plain (OpenSpec.upto retentionUnusedCanBeDroppedSpec)) retentionUnusedCanBeDroppedUptoCard

/-- THE SECOND FORM's CARD OF 'stemkeep1.RetentionNewVersionLosesNothing'. -/
def retentionNewVersionLosesNothingUptoCard : Claim7 := { stood := { row := retentionNewVersionLosesNothingUptoRow, standIns := [], harness := (true, "6b0488e520013ad99f18f23e6d2089dcfbeeb951f0fd539958511904b9bd6c9b"), looks := true }, kinds := [], alts := [], laidByText := true, laidKinds := [.data, .data, .data, .sentinel, .sentinel], laidTests := true, laidLooks := .later }
def RetentionNewVersionLosesNothingUptoCardSaid : Prop := Claim7.holds Tryz.pinned (.plain (OpenSpec.upto retentionNewVersionLosesNothingSpec)) retentionNewVersionLosesNothingUptoCard
end Rows
end Go.Proofs.YtbicbojfaghjcaaGreatDoor
