/-
  DERIVED. GIVEN WITH THE SEED: THE CARDS: each row of YtbmjiabdcnnkiaaGreatDoorRows.lean that lists a variable, with what it lists TIED to the program's text (the seventh form; the later family's looks); each row that meets fmt, with fmt's text TOLD by the authors' own Lean function (tested against real Go, not proved from fmt's source: count such statements apart). THE CARD IS WHAT COUNTS. Prove the row's statement (the work); the ties are given (YtbmjiabdcnnkiaaGreatDoorTie.lean); close each card by the builder's one call (the guide's Derived/Test/ToyasCard.lean, 'card_holds'). Laid BY PROGRAM, IN A SANDBOX (cutbox-door.mjs). By AI agents, Wed Nov 11 2026. No macro, syntax, notation, axiom, sorry.
-/
import Derived.Test.YtbmjiabdcnnkiaaGreatDoorRows
import GoSem.ClaimSeven
namespace Go.Proofs.YtbmjiabdcnnkiaaGreatDoor
namespace Rows

/-- THE TIED CARD OF 'quietuslaw27.ThreadRuns'. -/
def threadRunsCard : Claim7 := { stood := { row := threadRunsRow, standIns := [], harness := (true, "84e27cfec7db4197fd8f3556fa6ad2d89dd7e9c6e5594ac7d611993eaf26ed48"), looks := true }, kinds := [], alts := [], laidByText := true, laidKinds := [.data, .data, .data], laidTests := true, laidLooks := .later }
def ThreadRunsCardSaid : Prop := Claim7.holds Tryz.pinned (.plain (OpenSpec.ofChange threadRunsSpec)) threadRunsCard

/-- THE TIED CARD OF 'quietuslaw27.ThreadLimits'. -/
def threadLimitsCard : Claim7 := { stood := { row := threadLimitsRow, standIns := [], harness := (true, "84e27cfec7db4197fd8f3556fa6ad2d89dd7e9c6e5594ac7d611993eaf26ed48"), looks := true }, kinds := [], alts := [], laidByText := true, laidKinds := [.data, .data, .data], laidTests := true, laidLooks := .later }
def ThreadLimitsCardSaid : Prop := Claim7.holds Tryz.pinned (.plain (OpenSpec.ofChange threadLimitsSpec)) threadLimitsCard

/-- THE SECOND FORM's CARD OF 'quietuslaw27.ThreadRuns'. -/
def threadRunsUptoCard : Claim7 := { stood := { row := threadRunsUptoRow, standIns := [], harness := (true, "84e27cfec7db4197fd8f3556fa6ad2d89dd7e9c6e5594ac7d611993eaf26ed48"), looks := true }, kinds := [], alts := [], laidByText := true, laidKinds := [.data, .data, .data], laidTests := true, laidLooks := .later }
def ThreadRunsUptoCardSaid : Prop := Claim7.holds Tryz.pinned (.plain (OpenSpec.upto threadRunsSpec)) threadRunsUptoCard

/-- THE SECOND FORM's CARD OF 'quietuslaw27.ThreadLimits'. -/
def threadLimitsUptoCard : Claim7 := { stood := { row := threadLimitsUptoRow, standIns := [], harness := (true, "84e27cfec7db4197fd8f3556fa6ad2d89dd7e9c6e5594ac7d611993eaf26ed48"), looks := true }, kinds := [], alts := [], laidByText := true, laidKinds := [.data, .data, .data], laidTests := true, laidLooks := .later }
def ThreadLimitsUptoCardSaid : Prop := Claim7.holds Tryz.pinned (.plain (OpenSpec.upto threadLimitsSpec)) threadLimitsUptoCard
end Rows
end Go.Proofs.YtbmjiabdcnnkiaaGreatDoor
