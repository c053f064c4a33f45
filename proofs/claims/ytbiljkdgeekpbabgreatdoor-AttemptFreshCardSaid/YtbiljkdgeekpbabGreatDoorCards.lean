/-
  DERIVED. GIVEN WITH THE SEED: THE CARDS: each row of YtbiljkdgeekpbabGreatDoorRows.lean that lists a variable, with what it lists TIED to the program's text (the seventh form; the later family's looks); each row that meets fmt, with fmt's text TOLD by the authors' own Lean function (tested against real Go, not proved from fmt's source: count such statements apart). THE CARD IS WHAT COUNTS. Prove the row's statement (the work); the ties are given (YtbiljkdgeekpbabGreatDoorTie.lean); close each card by the builder's one call (the guide's Derived/Test/ToyasCard.lean, 'card_holds'). Laid BY PROGRAM, IN A SANDBOX (cutbox-door.mjs). By AI agents, Wed Nov 11 2026. No macro, syntax, notation, axiom, sorry.
-/
import Derived.Test.YtbiljkdgeekpbabGreatDoorRows
import GoSem.ClaimSeven
namespace Go.Proofs.YtbiljkdgeekpbabGreatDoor
namespace Rows

/-- THE TIED CARD OF 'quietuslaw26.AttemptFresh'. -/
def attemptFreshCard : Claim7 := { stood := { row := attemptFreshRow, standIns := [], harness := (true, "000b5ff67e2fc1b22a345e2961a7f7253d29ded57fd5ea2b984e14f02dbc02e6"), looks := true }, kinds := [], alts := [], laidByText := true, laidKinds := [.data, .data, .data], laidTests := true, laidLooks := .later }
def AttemptFreshCardSaid : Prop := Claim7.holds Tryz.pinned (.plain (OpenSpec.ofChange attemptFreshSpec)) attemptFreshCard

/-- THE SECOND FORM's CARD OF 'quietuslaw26.AttemptFresh'. -/
def attemptFreshUptoCard : Claim7 := { stood := { row := attemptFreshUptoRow, standIns := [], harness := (true, "000b5ff67e2fc1b22a345e2961a7f7253d29ded57fd5ea2b984e14f02dbc02e6"), looks := true }, kinds := [], alts := [], laidByText := true, laidKinds := [.data, .data, .data], laidTests := true, laidLooks := .later }
def AttemptFreshUptoCardSaid : Prop := Claim7.holds Tryz.pinned (.plain (OpenSpec.upto attemptFreshSpec)) attemptFreshUptoCard
end Rows
end Go.Proofs.YtbiljkdgeekpbabGreatDoor
