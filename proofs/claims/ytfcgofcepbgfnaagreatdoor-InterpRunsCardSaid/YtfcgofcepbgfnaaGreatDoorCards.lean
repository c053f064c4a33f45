/-
  DERIVED. GIVEN WITH THE SEED: THE CARDS: each row of YtfcgofcepbgfnaaGreatDoorRows.lean that lists a variable, with what it lists TIED to the program's text (the seventh form; the later family's looks); each row that meets fmt, with fmt's text TOLD by the authors' own Lean function (tested against real Go, not proved from fmt's source: count such statements apart). THE CARD IS WHAT COUNTS. Prove the row's statement (the work); the ties are given (YtfcgofcepbgfnaaGreatDoorTie.lean); close each card by the builder's one call (the guide's Derived/Test/ToyasCard.lean, 'card_holds'). Laid BY PROGRAM, IN A SANDBOX (cutbox-door.mjs). By AI agents, Wed Nov 11 2026. No macro, syntax, notation, axiom, sorry.
-/
import Derived.Test.YtfcgofcepbgfnaaGreatDoorRows
import GoSem.ClaimSeven
namespace Go.Proofs.YtfcgofcepbgfnaaGreatDoor
namespace Rows

/-- THE TIED CARD OF 'quietuslaw21.InterpRuns'. -/
def interpRunsCard : Claim7 := { stood := { row := interpRunsRow, standIns := [], harness := (true, "b1a6ed6735f94917279a779c08129c04445ae289fecd061338ba22852cd20e60"), looks := true }, kinds := [], alts := [], laidByText := true, laidKinds := [.data, .data, .data], laidTests := true, laidLooks := .later }
def InterpRunsCardSaid : Prop := Claim7.holds Tryz.pinned (.plain (OpenSpec.ofChange interpRunsSpec)) interpRunsCard

/-- THE SECOND FORM's CARD OF 'quietuslaw21.InterpRuns'. -/
def interpRunsUptoCard : Claim7 := { stood := { row := interpRunsUptoRow, standIns := [], harness := (true, "b1a6ed6735f94917279a779c08129c04445ae289fecd061338ba22852cd20e60"), looks := true }, kinds := [], alts := [], laidByText := true, laidKinds := [.data, .data, .data], laidTests := true, laidLooks := .later }
def InterpRunsUptoCardSaid : Prop := Claim7.holds Tryz.pinned (.plain (OpenSpec.upto interpRunsSpec)) interpRunsUptoCard
end Rows
end Go.Proofs.YtfcgofcepbgfnaaGreatDoor
