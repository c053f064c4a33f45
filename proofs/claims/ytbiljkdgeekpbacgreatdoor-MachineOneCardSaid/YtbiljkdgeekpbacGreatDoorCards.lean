/-
  DERIVED. GIVEN WITH THE SEED: THE CARDS: each row of YtbiljkdgeekpbacGreatDoorRows.lean that lists a variable, with what it lists TIED to the program's text (the seventh form; the later family's looks); each row that meets fmt, with fmt's text TOLD by the authors' own Lean function (tested against real Go, not proved from fmt's source: count such statements apart). THE CARD IS WHAT COUNTS. Prove the row's statement (the work); the ties are given (YtbiljkdgeekpbacGreatDoorTie.lean); close each card by the builder's one call (the guide's Derived/Test/ToyasCard.lean, 'card_holds'). Laid BY PROGRAM, IN A SANDBOX (cutbox-door.mjs). By AI agents, Wed Nov 11 2026. No macro, syntax, notation, axiom, sorry.
-/
import Derived.Test.YtbiljkdgeekpbacGreatDoorRows
import GoSem.ClaimSeven
namespace Go.Proofs.YtbiljkdgeekpbacGreatDoor
namespace Rows

/-- THE TIED CARD OF 'quietuslaw28.MachineOne'. -/
def machineOneCard : Claim7 := { stood := { row := machineOneRow, standIns := [], harness := (true, "5167eabe84e96650aea37a8121eccc73c207289c4a009f9629550c3f35c828c3"), looks := true }, kinds := [], alts := [], laidByText := true, laidKinds := [.data, .data, .data], laidTests := true, laidLooks := .later }
def MachineOneCardSaid : Prop := Claim7.holds Tryz.pinned (.plain (OpenSpec.ofChange machineOneSpec)) machineOneCard

/-- THE SECOND FORM's CARD OF 'quietuslaw28.MachineOne'. -/
def machineOneUptoCard : Claim7 := { stood := { row := machineOneUptoRow, standIns := [], harness := (true, "5167eabe84e96650aea37a8121eccc73c207289c4a009f9629550c3f35c828c3"), looks := true }, kinds := [], alts := [], laidByText := true, laidKinds := [.data, .data, .data], laidTests := true, laidLooks := .later }
def MachineOneUptoCardSaid : Prop := Claim7.holds Tryz.pinned (.plain (OpenSpec.upto machineOneSpec)) machineOneUptoCard
end Rows
end Go.Proofs.YtbiljkdgeekpbacGreatDoor
