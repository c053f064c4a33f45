/-
  DERIVED. GIVEN WITH THE SEED: THE CARDS: each row of YtemjbhdofokbhaaGreatDoorRows.lean that lists a variable, with what it lists TIED to the program's text (the seventh form; the later family's looks); each row that meets fmt, with fmt's text TOLD by the authors' own Lean function (tested against real Go, not proved from fmt's source: count such statements apart). THE CARD IS WHAT COUNTS. Prove the row's statement (the work); the ties are given (YtemjbhdofokbhaaGreatDoorTie.lean); close each card by the builder's one call (the guide's Derived/Test/ToyasCard.lean, 'card_holds'). Laid BY PROGRAM, IN A SANDBOX (cutbox-door.mjs). By AI agents, Wed Nov 11 2026. No macro, syntax, notation, axiom, sorry.
-/
import Derived.Test.YtemjbhdofokbhaaGreatDoorRows
import GoSem.ClaimSeven
namespace Go.Proofs.YtemjbhdofokbhaaGreatDoor
namespace Rows

/-- THE TIED CARD OF 'quietuslaw28.MachineGoes'. -/
def machineGoesCard : Claim7 := { stood := { row := machineGoesRow, standIns := [], harness := (true, "cb0bda7cab497eeccdbe7c05b5f66ae2254a19dd1e970dcd0f2600f220113ba0"), looks := true }, kinds := [], alts := [], laidByText := true, laidKinds := [.data, .data, .data], laidTests := true, laidLooks := .later }
def MachineGoesCardSaid : Prop := Claim7.holds Tryz.pinned (.plain (OpenSpec.ofChange machineGoesSpec)) machineGoesCard

/-- THE SECOND FORM's CARD OF 'quietuslaw28.MachineGoes'. -/
def machineGoesUptoCard : Claim7 := { stood := { row := machineGoesUptoRow, standIns := [], harness := (true, "cb0bda7cab497eeccdbe7c05b5f66ae2254a19dd1e970dcd0f2600f220113ba0"), looks := true }, kinds := [], alts := [], laidByText := true, laidKinds := [.data, .data, .data], laidTests := true, laidLooks := .later }
def MachineGoesUptoCardSaid : Prop := Claim7.holds Tryz.pinned (.plain (OpenSpec.upto machineGoesSpec)) machineGoesUptoCard
end Rows
end Go.Proofs.YtemjbhdofokbhaaGreatDoor
