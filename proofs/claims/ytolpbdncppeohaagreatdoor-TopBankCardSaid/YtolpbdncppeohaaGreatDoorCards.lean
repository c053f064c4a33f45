/-
  DERIVED. GIVEN WITH THE SEED: THE CARDS: each row of YtolpbdncppeohaaGreatDoorRows.lean that lists a variable, with what it lists TIED to the program's text (the seventh form; the later family's looks); each row that meets fmt, with fmt's text TOLD by the authors' own Lean function (tested against real Go, not proved from fmt's source: count such statements apart). THE CARD IS WHAT COUNTS. Prove the row's statement (the work); the ties are given (YtolpbdncppeohaaGreatDoorTie.lean); close each card by the builder's one call (the guide's Derived/Test/ToyasCard.lean, 'card_holds'). Laid BY PROGRAM, IN A SANDBOX (cutbox-door.mjs). By AI agents, Wed Nov 11 2026. No macro, syntax, notation, axiom, sorry.
-/
import Derived.Test.YtolpbdncppeohaaGreatDoorRows
import GoSem.ClaimSeven
namespace Go.Proofs.YtolpbdncppeohaaGreatDoor
namespace Rows

/-- THE TIED CARD OF 'quietustop.TopBank'. -/
def topBankCard : Claim7 := { stood := { row := topBankRow, standIns := [], harness := (true, "29e8caee9084a30cadb41c27115fec5186d6afa473098f575f78c4fdc28fb6b3"), looks := true }, kinds := [], alts := [], laidByText := true, laidKinds := [.data, .data, .data], laidTests := true, laidLooks := .later }
def TopBankCardSaid : Prop := Claim7.holds Tryz.pinned (.plain (OpenSpec.ofChange topBankSpec)) topBankCard

/-- THE SECOND FORM's CARD OF 'quietustop.TopBank'. -/
def topBankUptoCard : Claim7 := { stood := { row := topBankUptoRow, standIns := [], harness := (true, "29e8caee9084a30cadb41c27115fec5186d6afa473098f575f78c4fdc28fb6b3"), looks := true }, kinds := [], alts := [], laidByText := true, laidKinds := [.data, .data, .data], laidTests := true, laidLooks := .later }
def TopBankUptoCardSaid : Prop := Claim7.holds Tryz.pinned (.plain (OpenSpec.upto topBankSpec)) topBankUptoCard
end Rows
end Go.Proofs.YtolpbdncppeohaaGreatDoor
