/-
  DERIVED. GIVEN WITH THE SEED: THE CARDS: each row of YtlkmghghgmagaaaGreatDoorRows.lean that lists a variable, with what it lists TIED to the program's text (the seventh form; the later family's looks); each row that meets fmt, with fmt's text TOLD by the authors' own Lean function (tested against real Go, not proved from fmt's source: count such statements apart). THE CARD IS WHAT COUNTS. Prove the row's statement (the work); the ties are given (YtlkmghghgmagaaaGreatDoorTie.lean); close each card by the builder's one call (the guide's Derived/Test/ToyasCard.lean, 'card_holds'). Laid BY PROGRAM, IN A SANDBOX (cutbox-door.mjs). By AI agents, Wed Nov 11 2026. No macro, syntax, notation, axiom, sorry.
-/
import Derived.Test.YtlkmghghgmagaaaGreatDoorRows
import GoSem.ClaimSeven
namespace Go.Proofs.YtlkmghghgmagaaaGreatDoor
namespace Rows

/-- THE TIED CARD OF 'quietuslaw27.ThreadRuns'. -/
def threadRunsCard : Claim7 := { stood := { row := threadRunsRow, standIns := [], harness := (true, "586f3d9e38cc98d78ac3f7bc9af7306bcadae3e3189dec4d975b786e0ab4d5fc"), looks := true }, kinds := [], alts := [], laidByText := true, laidKinds := [.data, .data, .data], laidTests := true, laidLooks := .later }
def ThreadRunsCardSaid : Prop := Claim7.holds Tryz.pinned (.plain (OpenSpec.ofChange threadRunsSpec)) threadRunsCard

/-- THE SECOND FORM's CARD OF 'quietuslaw27.ThreadRuns'. -/
def threadRunsUptoCard : Claim7 := { stood := { row := threadRunsUptoRow, standIns := [], harness := (true, "586f3d9e38cc98d78ac3f7bc9af7306bcadae3e3189dec4d975b786e0ab4d5fc"), looks := true }, kinds := [], alts := [], laidByText := true, laidKinds := [.data, .data, .data], laidTests := true, laidLooks := .later }
def ThreadRunsUptoCardSaid : Prop := Claim7.holds Tryz.pinned (.plain (OpenSpec.upto threadRunsSpec)) threadRunsUptoCard
end Rows
end Go.Proofs.YtlkmghghgmagaaaGreatDoor
