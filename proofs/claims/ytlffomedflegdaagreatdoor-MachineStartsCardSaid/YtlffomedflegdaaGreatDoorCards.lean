/-
  DERIVED. GIVEN WITH THE SEED: THE CARDS: each row of YtlffomedflegdaaGreatDoorRows.lean that lists a variable, with what it lists TIED to the program's text (the seventh form; the later family's looks); each row that meets fmt, with fmt's text TOLD by the authors' own Lean function (tested against real Go, not proved from fmt's source: count such statements apart). THE CARD IS WHAT COUNTS. Prove the row's statement (the work); the ties are given (YtlffomedflegdaaGreatDoorTie.lean); close each card by the builder's one call (the guide's Derived/Test/ToyasCard.lean, 'card_holds'). Laid BY PROGRAM, IN A SANDBOX (cutbox-door.mjs). By AI agents, Wed Nov 11 2026. No macro, syntax, notation, axiom, sorry.
-/
import Derived.Test.YtlffomedflegdaaGreatDoorRows
import GoSem.ClaimSeven
namespace Go.Proofs.YtlffomedflegdaaGreatDoor
namespace Rows

/-- THE TIED CARD OF 'lateenlaw16.MachineRuns'. -/
def machineRunsCard : Claim7 := { stood := { row := machineRunsRow, standIns := [], harness := (true, "c8b6cc4407bc1138b60c66af1eda1fd11cf706ba74662aa1eea4fca4a879b2a8"), looks := true }, kinds := [], alts := [], laidByText := true, laidKinds := [.data, .data, .pinned], laidTests := true, laidLooks := .later }
def MachineRunsCardSaid : Prop := Claim7.holds Tryz.pinned (.plain (OpenSpec.ofChange machineRunsSpec)) machineRunsCard

/-- THE TIED CARD OF 'lateenlaw16.MachineStarts'. -/
def machineStartsCard : Claim7 := { stood := { row := machineStartsRow, standIns := [], harness := (true, "c8b6cc4407bc1138b60c66af1eda1fd11cf706ba74662aa1eea4fca4a879b2a8"), looks := true }, kinds := [], alts := [], laidByText := true, laidKinds := [.data, .data, .pinned], laidTests := true, laidLooks := .later }
def MachineStartsCardSaid : Prop := Claim7.holds Tryz.pinned (.plain (OpenSpec.ofChange machineStartsSpec)) machineStartsCard

/-- THE TIED CARD OF 'lateenlaw16.MachineGoesOn'. -/
def machineGoesOnCard : Claim7 := { stood := { row := machineGoesOnRow, standIns := [], harness := (true, "c8b6cc4407bc1138b60c66af1eda1fd11cf706ba74662aa1eea4fca4a879b2a8"), looks := true }, kinds := [], alts := [], laidByText := true, laidKinds := [.data, .data, .pinned], laidTests := true, laidLooks := .later }
def MachineGoesOnCardSaid : Prop := Claim7.holds Tryz.pinned (.plain (OpenSpec.ofChange machineGoesOnSpec)) machineGoesOnCard

/-- THE TIED CARD OF 'lateenlaw16.MachineCounts'. -/
def machineCountsCard : Claim7 := { stood := { row := machineCountsRow, standIns := [], harness := (true, "c8b6cc4407bc1138b60c66af1eda1fd11cf706ba74662aa1eea4fca4a879b2a8"), looks := true }, kinds := [], alts := [], laidByText := true, laidKinds := [.data, .data, .pinned], laidTests := true, laidLooks := .later }
def MachineCountsCardSaid : Prop := Claim7.holds Tryz.pinned (.plain (OpenSpec.ofChange machineCountsSpec)) machineCountsCard

/-- THE TIED CARD OF 'lateenlaw16.MachineGuards'. -/
def machineGuardsCard : Claim7 := { stood := { row := machineGuardsRow, standIns := [], harness := (true, "c8b6cc4407bc1138b60c66af1eda1fd11cf706ba74662aa1eea4fca4a879b2a8"), looks := true }, kinds := [], alts := [], laidByText := true, laidKinds := [.data, .data, .pinned], laidTests := true, laidLooks := .later }
def MachineGuardsCardSaid : Prop := Claim7.holds Tryz.pinned (.plain (OpenSpec.ofChange machineGuardsSpec)) machineGuardsCard

/-- THE SECOND FORM's CARD OF 'lateenlaw16.MachineRuns'. -/
def machineRunsUptoCard : Claim7 := { stood := { row := machineRunsUptoRow, standIns := [], harness := (true, "c8b6cc4407bc1138b60c66af1eda1fd11cf706ba74662aa1eea4fca4a879b2a8"), looks := true }, kinds := [], alts := [], laidByText := true, laidKinds := [.data, .data, .pinned], laidTests := true, laidLooks := .later }
def MachineRunsUptoCardSaid : Prop := Claim7.holds Tryz.pinned (.plain (OpenSpec.upto machineRunsSpec)) machineRunsUptoCard

/-- THE SECOND FORM's CARD OF 'lateenlaw16.MachineStarts'. -/
def machineStartsUptoCard : Claim7 := { stood := { row := machineStartsUptoRow, standIns := [], harness := (true, "c8b6cc4407bc1138b60c66af1eda1fd11cf706ba74662aa1eea4fca4a879b2a8"), looks := true }, kinds := [], alts := [], laidByText := true, laidKinds := [.data, .data, .pinned], laidTests := true, laidLooks := .later }
def MachineStartsUptoCardSaid : Prop := Claim7.holds Tryz.pinned (.plain (OpenSpec.upto machineStartsSpec)) machineStartsUptoCard

/-- THE SECOND FORM's CARD OF 'lateenlaw16.MachineGoesOn'. -/
def machineGoesOnUptoCard : Claim7 := { stood := { row := machineGoesOnUptoRow, standIns := [], harness := (true, "c8b6cc4407bc1138b60c66af1eda1fd11cf706ba74662aa1eea4fca4a879b2a8"), looks := true }, kinds := [], alts := [], laidByText := true, laidKinds := [.data, .data, .pinned], laidTests := true, laidLooks := .later }
def MachineGoesOnUptoCardSaid : Prop := Claim7.holds Tryz.pinned (.plain (OpenSpec.upto machineGoesOnSpec)) machineGoesOnUptoCard

/-- THE SECOND FORM's CARD OF 'lateenlaw16.MachineCounts'. -/
def machineCountsUptoCard : Claim7 := { stood := { row := machineCountsUptoRow, standIns := [], harness := (true, "c8b6cc4407bc1138b60c66af1eda1fd11cf706ba74662aa1eea4fca4a879b2a8"), looks := true }, kinds := [], alts := [], laidByText := true, laidKinds := [.data, .data, .pinned], laidTests := true, laidLooks := .later }
def MachineCountsUptoCardSaid : Prop := Claim7.holds Tryz.pinned (.plain (OpenSpec.upto machineCountsSpec)) machineCountsUptoCard

/-- THE SECOND FORM's CARD OF 'lateenlaw16.MachineGuards'. -/
def machineGuardsUptoCard : Claim7 := { stood := { row := machineGuardsUptoRow, standIns := [], harness := (true, "c8b6cc4407bc1138b60c66af1eda1fd11cf706ba74662aa1eea4fca4a879b2a8"), looks := true }, kinds := [], alts := [], laidByText := true, laidKinds := [.data, .data, .pinned], laidTests := true, laidLooks := .later }
def MachineGuardsUptoCardSaid : Prop := Claim7.holds Tryz.pinned (.plain (OpenSpec.upto machineGuardsSpec)) machineGuardsUptoCard
end Rows
end Go.Proofs.YtlffomedflegdaaGreatDoor
