/-
  DERIVED. GIVEN WITH THE SEED: THE CARDS: each row of YtpbpkcdebchbbaaGreatDoorRows.lean that lists a variable, with what it lists TIED to the program's text (the seventh form; the later family's looks); each row that meets fmt, with fmt's text TOLD by the authors' own Lean function (tested against real Go, not proved from fmt's source: count such statements apart). THE CARD IS WHAT COUNTS. Prove the row's statement (the work); the ties are given (YtpbpkcdebchbbaaGreatDoorTie.lean); close each card by the builder's one call (the guide's Derived/Test/ToyasCard.lean, 'card_holds'). Laid BY PROGRAM, IN A SANDBOX (cutbox-door.mjs). By AI agents, Wed Nov 11 2026. No macro, syntax, notation, axiom, sorry.
-/
import Derived.Test.YtpbpkcdebchbbaaGreatDoorRows
import GoSem.ClaimSeven
namespace Go.Proofs.YtpbpkcdebchbbaaGreatDoor
namespace Rows

/-- THE TIED CARD OF 'quietuslaw26.AttemptPlays'. -/
def attemptPlaysCard : Claim7 := { stood := { row := attemptPlaysRow, standIns := [], harness := (true, "c3e811c31e6457721fb844c8753086cb955aa00b3cb510b2c0d1af495883ea03"), looks := true }, kinds := [], alts := [], laidByText := true, laidKinds := [.data, .data, .data], laidTests := true, laidLooks := .later }
def AttemptPlaysCardSaid : Prop := Claim7.holds Tryz.pinned (.plain (OpenSpec.ofChange attemptPlaysSpec)) attemptPlaysCard

/-- THE SECOND FORM's CARD OF 'quietuslaw26.AttemptPlays'. -/
def attemptPlaysUptoCard : Claim7 := { stood := { row := attemptPlaysUptoRow, standIns := [], harness := (true, "c3e811c31e6457721fb844c8753086cb955aa00b3cb510b2c0d1af495883ea03"), looks := true }, kinds := [], alts := [], laidByText := true, laidKinds := [.data, .data, .data], laidTests := true, laidLooks := .later }
def AttemptPlaysUptoCardSaid : Prop := Claim7.holds Tryz.pinned (.plain (OpenSpec.upto attemptPlaysSpec)) attemptPlaysUptoCard
end Rows
end Go.Proofs.YtpbpkcdebchbbaaGreatDoor
