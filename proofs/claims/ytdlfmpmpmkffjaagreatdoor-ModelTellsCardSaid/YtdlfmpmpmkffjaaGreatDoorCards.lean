/-
  DERIVED. GIVEN WITH THE SEED: THE CARDS: each row of YtdlfmpmpmkffjaaGreatDoorRows.lean that lists a variable, with what it lists TIED to the program's text (the seventh form; the later family's looks); each row that meets fmt, with fmt's text TOLD by the authors' own Lean function (tested against real Go, not proved from fmt's source: count such statements apart). THE CARD IS WHAT COUNTS. Prove the row's statement (the work); the ties are given (YtdlfmpmpmkffjaaGreatDoorTie.lean); close each card by the builder's one call (the guide's Derived/Test/ToyasCard.lean, 'card_holds'). Laid BY PROGRAM, IN A SANDBOX (cutbox-door.mjs). By AI agents, Wed Nov 11 2026. No macro, syntax, notation, axiom, sorry.
-/
import Derived.Test.YtdlfmpmpmkffjaaGreatDoorRows
import GoSem.ClaimSeven
namespace Go.Proofs.YtdlfmpmpmkffjaaGreatDoor
namespace Rows

/-- THE TIED CARD OF 'quietuslaw21.InterpRuns'. -/
def interpRunsCard : Claim7 := { stood := { row := interpRunsRow, standIns := [], harness := (true, "40a39e4e3aed8dc40a3d5512df2e928f34521468adfcf774f5f6db22c5a4e54b"), looks := true }, kinds := [], alts := [], laidByText := true, laidKinds := [.data, .data, .data], laidTests := true, laidLooks := .later }
def InterpRunsCardSaid : Prop := Claim7.holds Tryz.pinned (.plain (OpenSpec.ofChange interpRunsSpec)) interpRunsCard

/-- THE TIED CARD OF 'quietuslaw21.InterpPlays'. -/
def interpPlaysCard : Claim7 := { stood := { row := interpPlaysRow, standIns := [], harness := (true, "40a39e4e3aed8dc40a3d5512df2e928f34521468adfcf774f5f6db22c5a4e54b"), looks := true }, kinds := [], alts := [], laidByText := true, laidKinds := [.data, .data, .data], laidTests := true, laidLooks := .later }
def InterpPlaysCardSaid : Prop := Claim7.holds Tryz.pinned (.plain (OpenSpec.ofChange interpPlaysSpec)) interpPlaysCard

/-- THE TIED CARD OF 'quietuslaw21.InterpUndo'. -/
def interpUndoCard : Claim7 := { stood := { row := interpUndoRow, standIns := [], harness := (true, "40a39e4e3aed8dc40a3d5512df2e928f34521468adfcf774f5f6db22c5a4e54b"), looks := true }, kinds := [], alts := [], laidByText := true, laidKinds := [.data, .data, .data], laidTests := true, laidLooks := .later }
def InterpUndoCardSaid : Prop := Claim7.holds Tryz.pinned (.plain (OpenSpec.ofChange interpUndoSpec)) interpUndoCard

/-- THE TIED CARD OF 'quietuslaw21.InterpWays'. -/
def interpWaysCard : Claim7 := { stood := { row := interpWaysRow, standIns := [], harness := (true, "40a39e4e3aed8dc40a3d5512df2e928f34521468adfcf774f5f6db22c5a4e54b"), looks := true }, kinds := [], alts := [], laidByText := true, laidKinds := [.data, .data, .data], laidTests := true, laidLooks := .later }
def InterpWaysCardSaid : Prop := Claim7.holds Tryz.pinned (.plain (OpenSpec.ofChange interpWaysSpec)) interpWaysCard

/-- THE TIED CARD OF 'quietuslaw21.InterpFuel'. -/
def interpFuelCard : Claim7 := { stood := { row := interpFuelRow, standIns := [], harness := (true, "40a39e4e3aed8dc40a3d5512df2e928f34521468adfcf774f5f6db22c5a4e54b"), looks := true }, kinds := [], alts := [], laidByText := true, laidKinds := [.data, .data, .data], laidTests := true, laidLooks := .later }
def InterpFuelCardSaid : Prop := Claim7.holds Tryz.pinned (.plain (OpenSpec.ofChange interpFuelSpec)) interpFuelCard

/-- THE TIED CARD OF 'quietuslaw22.ModelRuns'. -/
def modelRunsCard : Claim7 := { stood := { row := modelRunsRow, standIns := [], harness := (true, "40a39e4e3aed8dc40a3d5512df2e928f34521468adfcf774f5f6db22c5a4e54b"), looks := true }, kinds := [], alts := [], laidByText := true, laidKinds := [.data, .data, .data], laidTests := true, laidLooks := .later }
def ModelRunsCardSaid : Prop := Claim7.holds Tryz.pinned (.plain (OpenSpec.ofChange modelRunsSpec)) modelRunsCard

/-- THE TIED CARD OF 'quietuslaw22.ModelTells'. -/
def modelTellsCard : Claim7 := { stood := { row := modelTellsRow, standIns := [], harness := (true, "40a39e4e3aed8dc40a3d5512df2e928f34521468adfcf774f5f6db22c5a4e54b"), looks := true }, kinds := [], alts := [], laidByText := true, laidKinds := [.data, .data, .data], laidTests := true, laidLooks := .later }
def ModelTellsCardSaid : Prop := Claim7.holds Tryz.pinned (.plain (OpenSpec.ofChange modelTellsSpec)) modelTellsCard

/-- THE TIED CARD OF 'quietuslaw22.ModelFails'. -/
def modelFailsCard : Claim7 := { stood := { row := modelFailsRow, standIns := [], harness := (true, "40a39e4e3aed8dc40a3d5512df2e928f34521468adfcf774f5f6db22c5a4e54b"), looks := true }, kinds := [], alts := [], laidByText := true, laidKinds := [.data, .data, .data], laidTests := true, laidLooks := .later }
def ModelFailsCardSaid : Prop := Claim7.holds Tryz.pinned (.plain (OpenSpec.ofChange modelFailsSpec)) modelFailsCard

/-- THE SECOND FORM's CARD OF 'quietuslaw21.InterpRuns'. -/
def interpRunsUptoCard : Claim7 := { stood := { row := interpRunsUptoRow, standIns := [], harness := (true, "40a39e4e3aed8dc40a3d5512df2e928f34521468adfcf774f5f6db22c5a4e54b"), looks := true }, kinds := [], alts := [], laidByText := true, laidKinds := [.data, .data, .data], laidTests := true, laidLooks := .later }
def InterpRunsUptoCardSaid : Prop := Claim7.holds Tryz.pinned (.plain (OpenSpec.upto interpRunsSpec)) interpRunsUptoCard

/-- THE SECOND FORM's CARD OF 'quietuslaw21.InterpPlays'. -/
def interpPlaysUptoCard : Claim7 := { stood := { row := interpPlaysUptoRow, standIns := [], harness := (true, "40a39e4e3aed8dc40a3d5512df2e928f34521468adfcf774f5f6db22c5a4e54b"), looks := true }, kinds := [], alts := [], laidByText := true, laidKinds := [.data, .data, .data], laidTests := true, laidLooks := .later }
def InterpPlaysUptoCardSaid : Prop := Claim7.holds Tryz.pinned (.plain (OpenSpec.upto interpPlaysSpec)) interpPlaysUptoCard

/-- THE SECOND FORM's CARD OF 'quietuslaw21.InterpUndo'. -/
def interpUndoUptoCard : Claim7 := { stood := { row := interpUndoUptoRow, standIns := [], harness := (true, "40a39e4e3aed8dc40a3d5512df2e928f34521468adfcf774f5f6db22c5a4e54b"), looks := true }, kinds := [], alts := [], laidByText := true, laidKinds := [.data, .data, .data], laidTests := true, laidLooks := .later }
def InterpUndoUptoCardSaid : Prop := Claim7.holds Tryz.pinned (.plain (OpenSpec.upto interpUndoSpec)) interpUndoUptoCard

/-- THE SECOND FORM's CARD OF 'quietuslaw21.InterpWays'. -/
def interpWaysUptoCard : Claim7 := { stood := { row := interpWaysUptoRow, standIns := [], harness := (true, "40a39e4e3aed8dc40a3d5512df2e928f34521468adfcf774f5f6db22c5a4e54b"), looks := true }, kinds := [], alts := [], laidByText := true, laidKinds := [.data, .data, .data], laidTests := true, laidLooks := .later }
def InterpWaysUptoCardSaid : Prop := Claim7.holds Tryz.pinned (.plain (OpenSpec.upto interpWaysSpec)) interpWaysUptoCard

/-- THE SECOND FORM's CARD OF 'quietuslaw21.InterpFuel'. -/
def interpFuelUptoCard : Claim7 := { stood := { row := interpFuelUptoRow, standIns := [], harness := (true, "40a39e4e3aed8dc40a3d5512df2e928f34521468adfcf774f5f6db22c5a4e54b"), looks := true }, kinds := [], alts := [], laidByText := true, laidKinds := [.data, .data, .data], laidTests := true, laidLooks := .later }
def InterpFuelUptoCardSaid : Prop := Claim7.holds Tryz.pinned (.plain (OpenSpec.upto interpFuelSpec)) interpFuelUptoCard

/-- THE SECOND FORM's CARD OF 'quietuslaw22.ModelRuns'. -/
def modelRunsUptoCard : Claim7 := { stood := { row := modelRunsUptoRow, standIns := [], harness := (true, "40a39e4e3aed8dc40a3d5512df2e928f34521468adfcf774f5f6db22c5a4e54b"), looks := true }, kinds := [], alts := [], laidByText := true, laidKinds := [.data, .data, .data], laidTests := true, laidLooks := .later }
def ModelRunsUptoCardSaid : Prop := Claim7.holds Tryz.pinned (.plain (OpenSpec.upto modelRunsSpec)) modelRunsUptoCard

/-- THE SECOND FORM's CARD OF 'quietuslaw22.ModelTells'. -/
def modelTellsUptoCard : Claim7 := { stood := { row := modelTellsUptoRow, standIns := [], harness := (true, "40a39e4e3aed8dc40a3d5512df2e928f34521468adfcf774f5f6db22c5a4e54b"), looks := true }, kinds := [], alts := [], laidByText := true, laidKinds := [.data, .data, .data], laidTests := true, laidLooks := .later }
def ModelTellsUptoCardSaid : Prop := Claim7.holds Tryz.pinned (.plain (OpenSpec.upto modelTellsSpec)) modelTellsUptoCard

/-- THE SECOND FORM's CARD OF 'quietuslaw22.ModelFails'. -/
def modelFailsUptoCard : Claim7 := { stood := { row := modelFailsUptoRow, standIns := [], harness := (true, "40a39e4e3aed8dc40a3d5512df2e928f34521468adfcf774f5f6db22c5a4e54b"), looks := true }, kinds := [], alts := [], laidByText := true, laidKinds := [.data, .data, .data], laidTests := true, laidLooks := .later }
def ModelFailsUptoCardSaid : Prop := Claim7.holds Tryz.pinned (.plain (OpenSpec.upto modelFailsSpec)) modelFailsUptoCard
end Rows
end Go.Proofs.YtdlfmpmpmkffjaaGreatDoor
