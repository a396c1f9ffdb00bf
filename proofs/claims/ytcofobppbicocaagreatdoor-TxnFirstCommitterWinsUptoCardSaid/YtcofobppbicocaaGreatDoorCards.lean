/-
  DERIVED. GIVEN WITH THE SEED: THE CARDS: each row of YtcofobppbicocaaGreatDoorRows.lean that lists a variable, with what it lists TIED to the program's text (the seventh form; the later family's looks); each row that meets fmt, with fmt's text TOLD by the authors' own Lean function (tested against real Go, not proved from fmt's source: count such statements apart). THE CARD IS WHAT COUNTS. Prove the row's statement (the work); the ties are given (YtcofobppbicocaaGreatDoorTie.lean); close each card by the builder's one call (the guide's Derived/Test/ToyasCard.lean, 'card_holds'). Laid BY PROGRAM, IN A SANDBOX (cutbox-door.mjs). By AI agents, Wed Nov 11 2026. No macro, syntax, notation, axiom, sorry.
-/
import Derived.Test.YtcofobppbicocaaGreatDoorRows
import GoSem.ClaimSeven
namespace Go.Proofs.YtcofobppbicocaaGreatDoor
namespace Rows

/-- THE TIED CARD OF 'stemkeep1.TxnFirstCommitterWins'. -/
def txnFirstCommitterWinsCard : Claim7 := { stood := { row := txnFirstCommitterWinsRow, standIns := [], harness := (true, "1551c8548d4493cbf28f349aa4d9cca2d617816fa2c29b3fa2492ff97a24f4bf"), looks := true }, kinds := [], alts := [], laidByText := true, laidKinds := [.data, .data, .data, .sentinel, .sentinel], laidTests := true, laidLooks := .later }
def TxnFirstCommitterWinsCardSaid : Prop := Claim7.holds Tryz.pinned (.plain (OpenSpec.ofChange txnFirstCommitterWinsSpec)) txnFirstCommitterWinsCard

/-- THE SECOND FORM's CARD OF 'stemkeep1.TxnFirstCommitterWins'. -/
def txnFirstCommitterWinsUptoCard : Claim7 := { stood := { row := txnFirstCommitterWinsUptoRow, standIns := [], harness := (true, "1551c8548d4493cbf28f349aa4d9cca2d617816fa2c29b3fa2492ff97a24f4bf"), looks := true }, kinds := [], alts := [], laidByText := true, laidKinds := [.data, .data, .data, .sentinel, .sentinel], laidTests := true, laidLooks := .later }
def TxnFirstCommitterWinsUptoCardSaid : Prop := Claim7.holds Tryz.pinned (.plain (OpenSpec.upto txnFirstCommitterWinsSpec)) txnFirstCommitterWinsUptoCard
end Rows
end Go.Proofs.YtcofobppbicocaaGreatDoor
