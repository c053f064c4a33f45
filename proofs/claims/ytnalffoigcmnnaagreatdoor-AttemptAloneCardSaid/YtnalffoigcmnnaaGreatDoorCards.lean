/-
  DERIVED. GIVEN WITH THE SEED: THE CARDS: each row of YtnalffoigcmnnaaGreatDoorRows.lean that lists a variable, with what it lists TIED to the program's text (the seventh form; the later family's looks); each row that meets fmt, with fmt's text TOLD by the authors' own Lean function (tested against real Go, not proved from fmt's source: count such statements apart). THE CARD IS WHAT COUNTS. Prove the row's statement (the work); the ties are given (YtnalffoigcmnnaaGreatDoorTie.lean); close each card by the builder's one call (the guide's Derived/Test/ToyasCard.lean, 'card_holds'). Laid BY PROGRAM, IN A SANDBOX (cutbox-door.mjs). By AI agents, Wed Nov 11 2026. No macro, syntax, notation, axiom, sorry.
-/
import Derived.Test.YtnalffoigcmnnaaGreatDoorRows
import GoSem.ClaimSeven
namespace Go.Proofs.YtnalffoigcmnnaaGreatDoor
namespace Rows

/-- THE TIED CARD OF 'quietuslaw26.AttemptAlone'. -/
def attemptAloneCard : Claim7 := { stood := { row := attemptAloneRow, standIns := [], harness := (true, "eb574e45e622320fc4b0d25190d91dfb9768f03b788c9b7073eb75936b9396bb"), looks := true }, kinds := [], alts := [], laidByText := true, laidKinds := [.data, .data, .data], laidTests := true, laidLooks := .later }
def AttemptAloneCardSaid : Prop := Claim7.holds Tryz.pinned (.plain (OpenSpec.ofChange attemptAloneSpec)) attemptAloneCard

/-- THE SECOND FORM's CARD OF 'quietuslaw26.AttemptAlone'. -/
def attemptAloneUptoCard : Claim7 := { stood := { row := attemptAloneUptoRow, standIns := [], harness := (true, "eb574e45e622320fc4b0d25190d91dfb9768f03b788c9b7073eb75936b9396bb"), looks := true }, kinds := [], alts := [], laidByText := true, laidKinds := [.data, .data, .data], laidTests := true, laidLooks := .later }
def AttemptAloneUptoCardSaid : Prop := Claim7.holds Tryz.pinned (.plain (OpenSpec.upto attemptAloneSpec)) attemptAloneUptoCard
end Rows
end Go.Proofs.YtnalffoigcmnnaaGreatDoor
