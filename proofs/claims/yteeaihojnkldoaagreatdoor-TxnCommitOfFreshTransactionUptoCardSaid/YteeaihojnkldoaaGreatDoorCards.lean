/-
  DERIVED. GIVEN WITH THE SEED: THE CARDS: each row of YteeaihojnkldoaaGreatDoorRows.lean that lists a variable, with what it lists TIED to the program's text (the seventh form; the later family's looks); each row that meets fmt, with fmt's text TOLD by the authors' own Lean function (tested against real Go, not proved from fmt's source: count such statements apart). THE CARD IS WHAT COUNTS. Prove the row's statement (the work); the ties are given (YteeaihojnkldoaaGreatDoorTie.lean); close each card by the builder's one call (the guide's Derived/Test/ToyasCard.lean, 'card_holds'). Laid BY PROGRAM, IN A SANDBOX (cutbox-door.mjs). By AI agents, Wed Nov 11 2026. No macro, syntax, notation, axiom, sorry.
-/
import Derived.Test.YteeaihojnkldoaaGreatDoorRows
import GoSem.ClaimSeven
namespace Go.Proofs.YteeaihojnkldoaaGreatDoor
namespace Rows

/-- THE TIED CARD OF 'stemkeep1.TxnCommitOfFreshTransaction'. -/
def txnCommitOfFreshTransactionCard : Claim7 := { stood := { row := txnCommitOfFreshTransactionRow, standIns := [], harness := (true, "45ae0bfdc960cadab13daa94dec5dad86c78490da9d6d018f6ce64fae31d5efb"), looks := true }, kinds := [], alts := [], laidByText := true, laidKinds := [.data, .data, .data, .sentinel, .sentinel], laidTests := true, laidLooks := .later }
def TxnCommitOfFreshTransactionCardSaid : Prop := Claim7.holds Tryz.pinned (.plain (OpenSpec.ofChange txnCommitOfFreshTransactionSpec)) txnCommitOfFreshTransactionCard

/-- THE SECOND FORM's CARD OF 'stemkeep1.TxnCommitOfFreshTransaction'. -/
def txnCommitOfFreshTransactionUptoCard : Claim7 := { stood := { row := txnCommitOfFreshTransactionUptoRow, standIns := [], harness := (true, "45ae0bfdc960cadab13daa94dec5dad86c78490da9d6d018f6ce64fae31d5efb"), looks := true }, kinds := [], alts := [], laidByText := true, laidKinds := [.data, .data, .data, .sentinel, .sentinel], laidTests := true, laidLooks := .later }
def TxnCommitOfFreshTransactionUptoCardSaid : Prop := Claim7.holds Tryz.pinned (.plain (OpenSpec.upto txnCommitOfFreshTransactionSpec)) txnCommitOfFreshTransactionUptoCard
end Rows
end Go.Proofs.YteeaihojnkldoaaGreatDoor
