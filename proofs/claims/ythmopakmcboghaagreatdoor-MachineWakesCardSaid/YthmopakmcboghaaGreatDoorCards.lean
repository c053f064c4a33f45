/-
  DERIVED. GIVEN WITH THE SEED: THE CARDS: each row of YthmopakmcboghaaGreatDoorRows.lean that lists a variable, with what it lists TIED to the program's text (the seventh form; the later family's looks); each row that meets fmt, with fmt's text TOLD by the authors' own Lean function (tested against real Go, not proved from fmt's source: count such statements apart). THE CARD IS WHAT COUNTS. Prove the row's statement (the work); the ties are given (YthmopakmcboghaaGreatDoorTie.lean); close each card by the builder's one call (the guide's Derived/Test/ToyasCard.lean, 'card_holds'). Laid BY PROGRAM, IN A SANDBOX (cutbox-door.mjs). By AI agents, Wed Nov 11 2026. No macro, syntax, notation, axiom, sorry.
-/
import Derived.Test.YthmopakmcboghaaGreatDoorRows
import GoSem.ClaimSeven
namespace Go.Proofs.YthmopakmcboghaaGreatDoor
namespace Rows

/-- THE TIED CARD OF 'quietuslaw28.MachineWakes'. -/
def machineWakesCard : Claim7 := { stood := { row := machineWakesRow, standIns := [], harness := (true, "1b34a2b13cd0e08147c845e0ff1a1fa515bdd19751a4fa5768b57124fa33ea10"), looks := true }, kinds := [], alts := [], laidByText := true, laidKinds := [.data, .data, .data], laidTests := true, laidLooks := .later }
def MachineWakesCardSaid : Prop := Claim7.holds Tryz.pinned (.plain (OpenSpec.ofChange machineWakesSpec)) machineWakesCard

/-- THE SECOND FORM's CARD OF 'quietuslaw28.MachineWakes'. -/
def machineWakesUptoCard : Claim7 := { stood := { row := machineWakesUptoRow, standIns := [], harness := (true, "1b34a2b13cd0e08147c845e0ff1a1fa515bdd19751a4fa5768b57124fa33ea10"), looks := true }, kinds := [], alts := [], laidByText := true, laidKinds := [.data, .data, .data], laidTests := true, laidLooks := .later }
def MachineWakesUptoCardSaid : Prop := Claim7.holds Tryz.pinned (.plain (OpenSpec.upto machineWakesSpec)) machineWakesUptoCard
end Rows
end Go.Proofs.YthmopakmcboghaaGreatDoor
