/-
  DERIVED. GIVEN WITH THE SEED: THE CARDS: each row of YtefichdddddacaaGreatDoorRows.lean that lists a variable, with what it lists TIED to the program's text (the seventh form; the later family's looks); each row that meets fmt, with fmt's text TOLD by the authors' own Lean function (tested against real Go, not proved from fmt's source: count such statements apart). THE CARD IS WHAT COUNTS. Prove the row's statement (the work); the ties are given (YtefichdddddacaaGreatDoorTie.lean); close each card by the builder's one call (the guide's Derived/Test/ToyasCard.lean, 'card_holds'). Laid BY PROGRAM, IN A SANDBOX (cutbox-door.mjs). By AI agents, Wed Nov 11 2026. No macro, syntax, notation, axiom, sorry.
-/
import Derived.Test.YtefichdddddacaaGreatDoorRows
import GoSem.ClaimSeven
namespace Go.Proofs.YtefichdddddacaaGreatDoor
namespace Rows

/-- THE TIED CARD OF 'quietustop.TopAgain'. -/
def topAgainCard : Claim7 := { stood := { row := topAgainRow, standIns := [], harness := (true, "1578635331cc511cdb1d92928040a0de874e078ee41a2a834fa6f390ff51724e"), looks := true }, kinds := [], alts := [], laidByText := true, laidKinds := [.data, .data, .data], laidTests := true, laidLooks := .later }
def TopAgainCardSaid : Prop := Claim7.holds Tryz.pinned (.plain (OpenSpec.ofChange topAgainSpec)) topAgainCard

/-- THE SECOND FORM's CARD OF 'quietustop.TopAgain'. -/
def topAgainUptoCard : Claim7 := { stood := { row := topAgainUptoRow, standIns := [], harness := (true, "1578635331cc511cdb1d92928040a0de874e078ee41a2a834fa6f390ff51724e"), looks := true }, kinds := [], alts := [], laidByText := true, laidKinds := [.data, .data, .data], laidTests := true, laidLooks := .later }
def TopAgainUptoCardSaid : Prop := Claim7.holds Tryz.pinned (.plain (OpenSpec.upto topAgainSpec)) topAgainUptoCard
end Rows
end Go.Proofs.YtefichdddddacaaGreatDoor
