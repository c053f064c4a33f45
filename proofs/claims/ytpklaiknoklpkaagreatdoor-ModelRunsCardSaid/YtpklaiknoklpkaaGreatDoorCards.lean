/-
  DERIVED. GIVEN WITH THE SEED: THE CARDS: each row of YtpklaiknoklpkaaGreatDoorRows.lean that lists a variable, with what it lists TIED to the program's text (the seventh form; the later family's looks); each row that meets fmt, with fmt's text TOLD by the authors' own Lean function (tested against real Go, not proved from fmt's source: count such statements apart). THE CARD IS WHAT COUNTS. Prove the row's statement (the work); the ties are given (YtpklaiknoklpkaaGreatDoorTie.lean); close each card by the builder's one call (the guide's Derived/Test/ToyasCard.lean, 'card_holds'). Laid BY PROGRAM, IN A SANDBOX (cutbox-door.mjs). By AI agents, Wed Nov 11 2026. No macro, syntax, notation, axiom, sorry.
-/
import Derived.Test.YtpklaiknoklpkaaGreatDoorRows
import GoSem.ClaimSeven
namespace Go.Proofs.YtpklaiknoklpkaaGreatDoor
namespace Rows

/-- THE TIED CARD OF 'quietuslaw22.ModelRuns'. -/
def modelRunsCard : Claim7 := { stood := { row := modelRunsRow, standIns := [], harness := (true, "f20f3656e4be5dfdbfbddcd1d8eca3327f59ae5b0cd4b527ecd4a3959c732d08"), looks := true }, kinds := [], alts := [], laidByText := true, laidKinds := [.data, .data, .data], laidTests := true, laidLooks := .later }
def ModelRunsCardSaid : Prop := Claim7.holds Tryz.pinned (.plain (OpenSpec.ofChange modelRunsSpec)) modelRunsCard

/-- THE SECOND FORM's CARD OF 'quietuslaw22.ModelRuns'. -/
def modelRunsUptoCard : Claim7 := { stood := { row := modelRunsUptoRow, standIns := [], harness := (true, "f20f3656e4be5dfdbfbddcd1d8eca3327f59ae5b0cd4b527ecd4a3959c732d08"), looks := true }, kinds := [], alts := [], laidByText := true, laidKinds := [.data, .data, .data], laidTests := true, laidLooks := .later }
def ModelRunsUptoCardSaid : Prop := Claim7.holds Tryz.pinned (.plain (OpenSpec.upto modelRunsSpec)) modelRunsUptoCard
end Rows
end Go.Proofs.YtpklaiknoklpkaaGreatDoor
