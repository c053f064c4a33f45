/-
  DERIVED. GIVEN WITH THE SEED: THE CARDS: each row of YtpnlmmecgkjehaaGreatDoorRows.lean that lists a variable, with what it lists TIED to the program's text (the seventh form; the later family's looks); each row that meets fmt, with fmt's text TOLD by the authors' own Lean function (tested against real Go, not proved from fmt's source: count such statements apart). THE CARD IS WHAT COUNTS. Prove the row's statement (the work); the ties are given (YtpnlmmecgkjehaaGreatDoorTie.lean); close each card by the builder's one call (the guide's Derived/Test/ToyasCard.lean, 'card_holds'). Laid BY PROGRAM, IN A SANDBOX (cutbox-door.mjs). By AI agents, Wed Nov 11 2026. No macro, syntax, notation, axiom, sorry.
-/
import Derived.Test.YtpnlmmecgkjehaaGreatDoorRows
import GoSem.ClaimSeven
namespace Go.Proofs.YtpnlmmecgkjehaaGreatDoor
namespace Rows

/-- THE TIED CARD OF 'quietuslaw21.InterpRuns'. -/
def interpRunsCard : Claim7 := { stood := { row := interpRunsRow, standIns := [], harness := (true, "6ef2dc73948efe13e7b1ffb3019aa082f33c46c4f21c98e8c0271c09e23a5697"), looks := true }, kinds := [], alts := [], laidByText := true, laidKinds := [.data, .data, .data], laidTests := true, laidLooks := .later }
def InterpRunsCardSaid : Prop := Claim7.holds Tryz.pinned (.plain (OpenSpec.ofChange interpRunsSpec)) interpRunsCard

/-- THE TIED CARD OF 'quietuslaw21.InterpRefused'. -/
def interpRefusedCard : Claim7 := { stood := { row := interpRefusedRow, standIns := [], harness := (true, "6ef2dc73948efe13e7b1ffb3019aa082f33c46c4f21c98e8c0271c09e23a5697"), looks := true }, kinds := [], alts := [], laidByText := true, laidKinds := [.data, .data, .data], laidTests := true, laidLooks := .later }
def InterpRefusedCardSaid : Prop := Claim7.holds Tryz.pinned (.plain (OpenSpec.ofChange interpRefusedSpec)) interpRefusedCard

/-- THE SECOND FORM's CARD OF 'quietuslaw21.InterpRuns'. -/
def interpRunsUptoCard : Claim7 := { stood := { row := interpRunsUptoRow, standIns := [], harness := (true, "6ef2dc73948efe13e7b1ffb3019aa082f33c46c4f21c98e8c0271c09e23a5697"), looks := true }, kinds := [], alts := [], laidByText := true, laidKinds := [.data, .data, .data], laidTests := true, laidLooks := .later }
def InterpRunsUptoCardSaid : Prop := Claim7.holds Tryz.pinned (.plain (OpenSpec.upto interpRunsSpec)) interpRunsUptoCard

/-- THE SECOND FORM's CARD OF 'quietuslaw21.InterpRefused'. -/
def interpRefusedUptoCard : Claim7 := { stood := { row := interpRefusedUptoRow, standIns := [], harness := (true, "6ef2dc73948efe13e7b1ffb3019aa082f33c46c4f21c98e8c0271c09e23a5697"), looks := true }, kinds := [], alts := [], laidByText := true, laidKinds := [.data, .data, .data], laidTests := true, laidLooks := .later }
def InterpRefusedUptoCardSaid : Prop := Claim7.holds Tryz.pinned (.plain (OpenSpec.upto interpRefusedSpec)) interpRefusedUptoCard
end Rows
end Go.Proofs.YtpnlmmecgkjehaaGreatDoor
