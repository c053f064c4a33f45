/-
  DERIVED. GIVEN WITH THE SEED: THE CARDS: each row of YtdhleiohmbphgaaGreatDoorRows.lean that lists a variable, with what it lists TIED to the program's text (the seventh form; the later family's looks); each row that meets fmt, with fmt's text TOLD by the authors' own Lean function (tested against real Go, not proved from fmt's source: count such statements apart). THE CARD IS WHAT COUNTS. Prove the row's statement (the work); the ties are given (YtdhleiohmbphgaaGreatDoorTie.lean); close each card by the builder's one call (the guide's Derived/Test/ToyasCard.lean, 'card_holds'). Laid BY PROGRAM, IN A SANDBOX (cutbox-door.mjs). By AI agents, Wed Nov 11 2026. No macro, syntax, notation, axiom, sorry.
-/
import Derived.Test.YtdhleiohmbphgaaGreatDoorRows
import GoSem.ClaimSeven
namespace Go.Proofs.YtdhleiohmbphgaaGreatDoor
namespace Rows

/-- THE TIED CARD OF 'quietuslaw26.AttemptRuns'. -/
def attemptRunsCard : Claim7 := { stood := { row := attemptRunsRow, standIns := [], harness := (true, "4ca27b9e0d66865e5c9df2f7e6f86fe24addce3ddb504686af2f968c0764de4e"), looks := true }, kinds := [], alts := [], laidByText := true, laidKinds := [.data, .data, .data], laidTests := true, laidLooks := .later }
def AttemptRunsCardSaid : Prop := Claim7.holds Tryz.pinned (.plain (OpenSpec.ofChange attemptRunsSpec)) attemptRunsCard

/-- THE TIED CARD OF 'quietuslaw26.AttemptHeld'. -/
def attemptHeldCard : Claim7 := { stood := { row := attemptHeldRow, standIns := [], harness := (true, "4ca27b9e0d66865e5c9df2f7e6f86fe24addce3ddb504686af2f968c0764de4e"), looks := true }, kinds := [], alts := [], laidByText := true, laidKinds := [.data, .data, .data], laidTests := true, laidLooks := .later }
def AttemptHeldCardSaid : Prop := Claim7.holds Tryz.pinned (.plain (OpenSpec.ofChange attemptHeldSpec)) attemptHeldCard

/-- THE SECOND FORM's CARD OF 'quietuslaw26.AttemptRuns'. -/
def attemptRunsUptoCard : Claim7 := { stood := { row := attemptRunsUptoRow, standIns := [], harness := (true, "4ca27b9e0d66865e5c9df2f7e6f86fe24addce3ddb504686af2f968c0764de4e"), looks := true }, kinds := [], alts := [], laidByText := true, laidKinds := [.data, .data, .data], laidTests := true, laidLooks := .later }
def AttemptRunsUptoCardSaid : Prop := Claim7.holds Tryz.pinned (.plain (OpenSpec.upto attemptRunsSpec)) attemptRunsUptoCard

/-- THE SECOND FORM's CARD OF 'quietuslaw26.AttemptHeld'. -/
def attemptHeldUptoCard : Claim7 := { stood := { row := attemptHeldUptoRow, standIns := [], harness := (true, "4ca27b9e0d66865e5c9df2f7e6f86fe24addce3ddb504686af2f968c0764de4e"), looks := true }, kinds := [], alts := [], laidByText := true, laidKinds := [.data, .data, .data], laidTests := true, laidLooks := .later }
def AttemptHeldUptoCardSaid : Prop := Claim7.holds Tryz.pinned (.plain (OpenSpec.upto attemptHeldSpec)) attemptHeldUptoCard
end Rows
end Go.Proofs.YtdhleiohmbphgaaGreatDoor
