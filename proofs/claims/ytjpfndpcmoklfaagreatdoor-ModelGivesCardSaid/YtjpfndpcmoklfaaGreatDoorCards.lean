/-
  DERIVED. GIVEN WITH THE SEED: THE CARDS: each row of YtjpfndpcmoklfaaGreatDoorRows.lean that lists a variable, with what it lists TIED to the program's text (the seventh form; the later family's looks); each row that meets fmt, with fmt's text TOLD by the authors' own Lean function (tested against real Go, not proved from fmt's source: count such statements apart). THE CARD IS WHAT COUNTS. Prove the row's statement (the work); the ties are given (YtjpfndpcmoklfaaGreatDoorTie.lean); close each card by the builder's one call (the guide's Derived/Test/ToyasCard.lean, 'card_holds'). Laid BY PROGRAM, IN A SANDBOX (cutbox-door.mjs). By AI agents, Wed Nov 11 2026. No macro, syntax, notation, axiom, sorry.
-/
import Derived.Test.YtjpfndpcmoklfaaGreatDoorRows
import GoSem.ClaimSeven
namespace Go.Proofs.YtjpfndpcmoklfaaGreatDoor
namespace Rows

/-- THE TIED CARD OF 'quietuslaw22.ModelGives'. -/
def modelGivesCard : Claim7 := { stood := { row := modelGivesRow, standIns := [], harness := (true, "5664f5ed2c07e9d4ba4f835ca8a68b135d54c7514addc37e9b3918d5192b2fc7"), looks := true }, kinds := [], alts := [], laidByText := true, laidKinds := [.data, .data, .data], laidTests := true, laidLooks := .later }
def ModelGivesCardSaid : Prop := Claim7.holds Tryz.pinned (.plain (OpenSpec.ofChange modelGivesSpec)) modelGivesCard

/-- THE SECOND FORM's CARD OF 'quietuslaw22.ModelGives'. -/
def modelGivesUptoCard : Claim7 := { stood := { row := modelGivesUptoRow, standIns := [], harness := (true, "5664f5ed2c07e9d4ba4f835ca8a68b135d54c7514addc37e9b3918d5192b2fc7"), looks := true }, kinds := [], alts := [], laidByText := true, laidKinds := [.data, .data, .data], laidTests := true, laidLooks := .later }
def ModelGivesUptoCardSaid : Prop := Claim7.holds Tryz.pinned (.plain (OpenSpec.upto modelGivesSpec)) modelGivesUptoCard
end Rows
end Go.Proofs.YtjpfndpcmoklfaaGreatDoor
