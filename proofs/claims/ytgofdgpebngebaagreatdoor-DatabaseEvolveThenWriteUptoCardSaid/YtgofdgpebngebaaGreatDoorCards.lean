/-
  DERIVED. GIVEN WITH THE SEED: THE CARDS: each row of YtgofdgpebngebaaGreatDoorRows.lean that lists a variable, with what it lists TIED to the program's text (the seventh form; the later family's looks); each row that meets fmt, with fmt's text TOLD by the authors' own Lean function (tested against real Go, not proved from fmt's source: count such statements apart). THE CARD IS WHAT COUNTS. Prove the row's statement (the work); the ties are given (YtgofdgpebngebaaGreatDoorTie.lean); close each card by the builder's one call (the guide's Derived/Test/ToyasCard.lean, 'card_holds'). Laid BY PROGRAM, IN A SANDBOX (cutbox-door.mjs). By AI agents, Wed Nov 11 2026. No macro, syntax, notation, axiom, sorry.
-/
import Derived.Test.YtgofdgpebngebaaGreatDoorRows
import GoSem.ClaimSeven
namespace Go.Proofs.YtgofdgpebngebaaGreatDoor
namespace Rows

/-- THE TIED CARD OF 'stemkeep1.DatabaseEvolveThenWrite'. -/
def databaseEvolveThenWriteCard : Claim7 := { stood := { row := databaseEvolveThenWriteRow, standIns := [], harness := (true, "6b183a605aea6d17d7e9da616e00388998098ca683ec2b6a0993f5c40d92ed5d"), looks := true }, kinds := [], alts := [], laidByText := true, laidKinds := [.data, .data, .data, .sentinel, .sentinel], laidTests := true, laidLooks := .later }
def DatabaseEvolveThenWriteCardSaid : Prop := Claim7.holds Tryz.pinned (.plain (OpenSpec.ofChange databaseEvolveThenWriteSpec)) databaseEvolveThenWriteCard

/-- THE SECOND FORM's CARD OF 'stemkeep1.DatabaseEvolveThenWrite'. -/
def databaseEvolveThenWriteUptoCard : Claim7 := { stood := { row := databaseEvolveThenWriteUptoRow, standIns := [], harness := (true, "6b183a605aea6d17d7e9da616e00388998098ca683ec2b6a0993f5c40d92ed5d"), looks := true }, kinds := [], alts := [], laidByText := true, laidKinds := [.data, .data, .data, .sentinel, .sentinel], laidTests := true, laidLooks := .later }
def DatabaseEvolveThenWriteUptoCardSaid : Prop := Claim7.holds Tryz.pinned (.plain (OpenSpec.upto databaseEvolveThenWriteSpec)) databaseEvolveThenWriteUptoCard
end Rows
end Go.Proofs.YtgofdgpebngebaaGreatDoor
