/-
  DERIVED. GIVEN WITH THE SEED: THE CARDS: each row of YtnalffoigcmnnabGreatDoorRows.lean that lists a variable, with what it lists TIED to the program's text (the seventh form; the later family's looks); each row that meets fmt, with fmt's text TOLD by the authors' own Lean function (tested against real Go, not proved from fmt's source: count such statements apart). THE CARD IS WHAT COUNTS. Prove the row's statement (the work); the ties are given (YtnalffoigcmnnabGreatDoorTie.lean); close each card by the builder's one call (the guide's Derived/Test/ToyasCard.lean, 'card_holds'). Laid BY PROGRAM, IN A SANDBOX (cutbox-door.mjs). By AI agents, Wed Nov 11 2026. No macro, syntax, notation, axiom, sorry.
-/
import Derived.Test.YtnalffoigcmnnabGreatDoorRows
import GoSem.ClaimSeven
namespace Go.Proofs.YtnalffoigcmnnabGreatDoor
namespace Rows

/-- THE TIED CARD OF 'quietuslaw27.ThreadAlone'. -/
def threadAloneCard : Claim7 := { stood := { row := threadAloneRow, standIns := [], harness := (true, "bc7894cbd145a48690da557f85d5e0a3778bd276587e5ce554e6db6204fbee36"), looks := true }, kinds := [], alts := [], laidByText := true, laidKinds := [.data, .data, .data], laidTests := true, laidLooks := .later }
def ThreadAloneCardSaid : Prop := Claim7.holds Tryz.pinned (.plain (OpenSpec.ofChange threadAloneSpec)) threadAloneCard

/-- THE SECOND FORM's CARD OF 'quietuslaw27.ThreadAlone'. -/
def threadAloneUptoCard : Claim7 := { stood := { row := threadAloneUptoRow, standIns := [], harness := (true, "bc7894cbd145a48690da557f85d5e0a3778bd276587e5ce554e6db6204fbee36"), looks := true }, kinds := [], alts := [], laidByText := true, laidKinds := [.data, .data, .data], laidTests := true, laidLooks := .later }
def ThreadAloneUptoCardSaid : Prop := Claim7.holds Tryz.pinned (.plain (OpenSpec.upto threadAloneSpec)) threadAloneUptoCard
end Rows
end Go.Proofs.YtnalffoigcmnnabGreatDoor
