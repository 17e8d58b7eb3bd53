/-
  DERIVED. GIVEN WITH THE SEED: THE CARDS: each row of YtimmncjdknlegaaDoorRows.lean that lists a variable, with what it lists TIED to the program's text (the seventh form; the later family's looks); each row that meets fmt, with fmt's text TOLD by the authors' own Lean function (tested against real Go, not proved from fmt's source: count such statements apart). THE CARD IS WHAT COUNTS. Prove the row's statement (the work); the ties are given (YtimmncjdknlegaaDoorTie.lean); close each card by the builder's one call (the guide's Derived/Test/ToyasCard.lean, 'card_holds'). Laid BY PROGRAM, IN A SANDBOX (cutbox-door.mjs). By AI agents, Wed Nov 11 2026. No macro, syntax, notation, axiom, sorry.
-/
import Derived.Test.YtimmncjdknlegaaDoorRows
import GoSem.ClaimSeven
namespace Go.Proofs.YtimmncjdknlegaaDoor
namespace Rows

/-- THE TIED CARD OF 'queuelablaw10.MachineMatchesReference'. -/
def machineMatchesReferenceCard : Claim7 := { stood := { row := machineMatchesReferenceRow, standIns := [], harness := (true, "b519abfcd9eaf58f8301e2f82faefcf839c6ec88d9b1c4e31f8bb7e10988298b"), looks := false }, kinds := [], alts := [], laidByText := true, laidKinds := [.data, .data], laidTests := true, laidLooks := .later }
def MachineMatchesReferenceCardSaid : Prop := Claim7.holds Tryd.pinned (.plain (OpenSpec.ofChange machineMatchesReferenceSpec)) machineMatchesReferenceCard

/-- THE TIED CARD OF 'queuelablaw10.MachineStates'. -/
def machineStatesCard : Claim7 := { stood := { row := machineStatesRow, standIns := [], harness := (true, "b519abfcd9eaf58f8301e2f82faefcf839c6ec88d9b1c4e31f8bb7e10988298b"), looks := false }, kinds := [], alts := [], laidByText := true, laidKinds := [.data, .data], laidTests := true, laidLooks := .later }
def MachineStatesCardSaid : Prop := Claim7.holds Tryd.pinned (.plain (OpenSpec.ofChange machineStatesSpec)) machineStatesCard

/-- THE TIED CARD OF 'queuelablaw10.MachineParts'. -/
def machinePartsCard : Claim7 := { stood := { row := machinePartsRow, standIns := [], harness := (true, "b519abfcd9eaf58f8301e2f82faefcf839c6ec88d9b1c4e31f8bb7e10988298b"), looks := false }, kinds := [], alts := [], laidByText := true, laidKinds := [.data, .data], laidTests := true, laidLooks := .later }
def MachinePartsCardSaid : Prop := Claim7.holds Tryd.pinned (.plain (OpenSpec.ofChange machinePartsSpec)) machinePartsCard

/-- THE TIED CARD OF 'queuelablaw10.MachineAlone'. -/
def machineAloneCard : Claim7 := { stood := { row := machineAloneRow, standIns := [], harness := (true, "b519abfcd9eaf58f8301e2f82faefcf839c6ec88d9b1c4e31f8bb7e10988298b"), looks := false }, kinds := [], alts := [], laidByText := true, laidKinds := [.data, .data], laidTests := true, laidLooks := .later }
def MachineAloneCardSaid : Prop := Claim7.holds Tryd.pinned (.plain (OpenSpec.ofChange machineAloneSpec)) machineAloneCard

/-- THE SECOND FORM's CARD OF 'queuelablaw10.MachineMatchesReference'. -/
def machineMatchesReferenceUptoCard : Claim7 := { stood := { row := machineMatchesReferenceUptoRow, standIns := [], harness := (true, "b519abfcd9eaf58f8301e2f82faefcf839c6ec88d9b1c4e31f8bb7e10988298b"), looks := false }, kinds := [], alts := [], laidByText := true, laidKinds := [.data, .data], laidTests := true, laidLooks := .later }
def MachineMatchesReferenceUptoCardSaid : Prop := Claim7.holds Tryd.pinned (.plain (OpenSpec.upto machineMatchesReferenceSpec)) machineMatchesReferenceUptoCard

/-- THE SECOND FORM's CARD OF 'queuelablaw10.MachineStates'. -/
def machineStatesUptoCard : Claim7 := { stood := { row := machineStatesUptoRow, standIns := [], harness := (true, "b519abfcd9eaf58f8301e2f82faefcf839c6ec88d9b1c4e31f8bb7e10988298b"), looks := false }, kinds := [], alts := [], laidByText := true, laidKinds := [.data, .data], laidTests := true, laidLooks := .later }
def MachineStatesUptoCardSaid : Prop := Claim7.holds Tryd.pinned (.plain (OpenSpec.upto machineStatesSpec)) machineStatesUptoCard

/-- THE SECOND FORM's CARD OF 'queuelablaw10.MachineParts'. -/
def machinePartsUptoCard : Claim7 := { stood := { row := machinePartsUptoRow, standIns := [], harness := (true, "b519abfcd9eaf58f8301e2f82faefcf839c6ec88d9b1c4e31f8bb7e10988298b"), looks := false }, kinds := [], alts := [], laidByText := true, laidKinds := [.data, .data], laidTests := true, laidLooks := .later }
def MachinePartsUptoCardSaid : Prop := Claim7.holds Tryd.pinned (.plain (OpenSpec.upto machinePartsSpec)) machinePartsUptoCard

/-- THE SECOND FORM's CARD OF 'queuelablaw10.MachineAlone'. -/
def machineAloneUptoCard : Claim7 := { stood := { row := machineAloneUptoRow, standIns := [], harness := (true, "b519abfcd9eaf58f8301e2f82faefcf839c6ec88d9b1c4e31f8bb7e10988298b"), looks := false }, kinds := [], alts := [], laidByText := true, laidKinds := [.data, .data], laidTests := true, laidLooks := .later }
def MachineAloneUptoCardSaid : Prop := Claim7.holds Tryd.pinned (.plain (OpenSpec.upto machineAloneSpec)) machineAloneUptoCard
end Rows
end Go.Proofs.YtimmncjdknlegaaDoor
