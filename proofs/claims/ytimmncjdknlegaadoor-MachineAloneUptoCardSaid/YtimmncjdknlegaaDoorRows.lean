/-
  NARROWER THAN 'FOR EVERY INPUT', by the rows' own cells (each row's printed sentence says how): MachineMatchesReference: laid · MachineStates: laid · MachineParts: laid · MachineAlone: laid.
  DERIVED. THE GIVEN ROWS OF THIS SEAT. 4 by the template 'for every input the law returns true; each argument reads behind the call as it read before'; 0 by the template 'total and deterministic' (their statements: YtimmncjdknlegaaDoorTotals.lean).
  GIVEN WITH THE SEED: the statements are not yours to turn. If you find one false, say at which input.
  Laid BY PROGRAM, IN A SANDBOX (cutbox-rows.mjs): the forced cells as the released guide's own fill.sh prints them over the translation cd19031dc11ca20f… (all of the seat's roots in one cut). By AI agents, Wed Nov 11 2026. No macro, syntax, notation, axiom, sorry.
-/
import Derived.Test.YtimmncjdknlegaaDoorChecked
import GoSem.Claim
import GoSem.ClaimJoined
import GoSem.ClaimMapViews
import Derived.JoinedTies
import Derived.KernelRfl
namespace Go.Proofs.YtimmncjdknlegaaDoor
/- THE CELL 'sum', in the pinned program and in every row, IS THE sha256 OF THE DUMP (.gsa) THAT YtimmncjdknlegaaDoorProg.lean LOADS. Nothing in Lean hashes anything: it is a label: what it is worth is what the hold of that sum in a sandbox is worth. -/
noncomputable def Tryd.pinned : Pinned := { name := "ytimmncjdknlegaadoor", sum := "cd19031dc11ca20ffd8087d0a894becaf072abb9916e4094a71fdb7c38491fe9", checked := Tryd.checked }
namespace Rows
def none {H : Type} : Left H := { results := [], args := [] }

/- WHAT THE LISTED PACKAGE-LEVEL VARIABLES READ AS WHEN THE CALL BEGINS. Each datum BY PROGRAM (the guide's laid-datum.mjs) off the statement by which the dump's own 'gosem.cut.vars' lays the variable. In a bare row this is a premise. The card (YtimmncjdknlegaaDoorCards.lean) ties it to the program's text. -/
def laid_queuelab_machine_least {H : Type} : DataW H := .agg [.lit (.int .i64 1), .lit (.int .i64 1), .lit (.int .i64 1), .lit (.int .i64 0)]
def laid_queuelab_machine_most {H : Type} : DataW H := .agg [.lit (.int .i64 1000), .lit (.int .i64 10000000), .lit (.int .i64 10000), .lit (.int .i64 4000)]

/-- 'queuelablaw10.MachineMatchesReference': WHATEVER THE INPUT: true; the input reads as it did. -/
def machineMatchesReferenceSpec : ChangeSpec := { name := "machineMatchesReference", fn := fun _ => fun
  | [d1, d2, d3, d4] => { results := [.lit (.bool true)], args := [d1, d2, d3, d4] }
  | _ => none }
def machineMatchesReferenceRow : OpenClaim := { program := "ytimmncjdknlegaadoor", sum := "cd19031dc11ca20ffd8087d0a894becaf072abb9916e4094a71fdb7c38491fe9", func := "queuelab/queuelablaw10.MachineMatchesReference", spec := "machineMatchesReference", unfollowed := true, recurses := true, named := ["queuelab/machine.least", "queuelab/machine.most"], apart := false, laid := [("queuelab/machine.least", laid_queuelab_machine_least), ("queuelab/machine.most", laid_queuelab_machine_most)] }
def MachineMatchesReferenceSaid : Prop := machineMatchesReferenceRow.holds Tryd.pinned (OpenSpec.ofChange machineMatchesReferenceSpec)

/-- ITS FALSE NEIGHBOUR: 'it returns false'. Refute it at one input. -/
def machineMatchesReferenceWrong : ChangeSpec := { name := "machineMatchesReference", fn := fun _ => fun
  | [d1, d2, d3, d4] => { results := [.lit (.bool false)], args := [d1, d2, d3, d4] }
  | _ => none }
def MachineMatchesReferenceWrongFalsely : Prop := machineMatchesReferenceRow.holds Tryd.pinned (OpenSpec.ofChange machineMatchesReferenceWrong)

/-- 'queuelablaw10.MachineStates': WHATEVER THE INPUT: true; the input reads as it did. -/
def machineStatesSpec : ChangeSpec := { name := "machineStates", fn := fun _ => fun
  | [d1, d2, d3, d4] => { results := [.lit (.bool true)], args := [d1, d2, d3, d4] }
  | _ => none }
def machineStatesRow : OpenClaim := { program := "ytimmncjdknlegaadoor", sum := "cd19031dc11ca20ffd8087d0a894becaf072abb9916e4094a71fdb7c38491fe9", func := "queuelab/queuelablaw10.MachineStates", spec := "machineStates", unfollowed := true, recurses := true, named := ["queuelab/machine.least", "queuelab/machine.most"], apart := false, laid := [("queuelab/machine.least", laid_queuelab_machine_least), ("queuelab/machine.most", laid_queuelab_machine_most)] }
def MachineStatesSaid : Prop := machineStatesRow.holds Tryd.pinned (OpenSpec.ofChange machineStatesSpec)

/-- ITS FALSE NEIGHBOUR: 'it returns false'. Refute it at one input. -/
def machineStatesWrong : ChangeSpec := { name := "machineStates", fn := fun _ => fun
  | [d1, d2, d3, d4] => { results := [.lit (.bool false)], args := [d1, d2, d3, d4] }
  | _ => none }
def MachineStatesWrongFalsely : Prop := machineStatesRow.holds Tryd.pinned (OpenSpec.ofChange machineStatesWrong)

/-- 'queuelablaw10.MachineParts': WHATEVER THE INPUT: true; the input reads as it did. -/
def machinePartsSpec : ChangeSpec := { name := "machineParts", fn := fun _ => fun
  | [d1, d2, d3, d4, d5] => { results := [.lit (.bool true)], args := [d1, d2, d3, d4, d5] }
  | _ => none }
def machinePartsRow : OpenClaim := { program := "ytimmncjdknlegaadoor", sum := "cd19031dc11ca20ffd8087d0a894becaf072abb9916e4094a71fdb7c38491fe9", func := "queuelab/queuelablaw10.MachineParts", spec := "machineParts", unfollowed := true, recurses := true, named := ["queuelab/machine.least", "queuelab/machine.most"], apart := false, laid := [("queuelab/machine.least", laid_queuelab_machine_least), ("queuelab/machine.most", laid_queuelab_machine_most)] }
def MachinePartsSaid : Prop := machinePartsRow.holds Tryd.pinned (OpenSpec.ofChange machinePartsSpec)

/-- ITS FALSE NEIGHBOUR: 'it returns false'. Refute it at one input. -/
def machinePartsWrong : ChangeSpec := { name := "machineParts", fn := fun _ => fun
  | [d1, d2, d3, d4, d5] => { results := [.lit (.bool false)], args := [d1, d2, d3, d4, d5] }
  | _ => none }
def MachinePartsWrongFalsely : Prop := machinePartsRow.holds Tryd.pinned (OpenSpec.ofChange machinePartsWrong)

/-- 'queuelablaw10.MachineAlone': WHATEVER THE INPUT: true; the input reads as it did. -/
def machineAloneSpec : ChangeSpec := { name := "machineAlone", fn := fun _ => fun
  | [d1, d2, d3, d4] => { results := [.lit (.bool true)], args := [d1, d2, d3, d4] }
  | _ => none }
def machineAloneRow : OpenClaim := { program := "ytimmncjdknlegaadoor", sum := "cd19031dc11ca20ffd8087d0a894becaf072abb9916e4094a71fdb7c38491fe9", func := "queuelab/queuelablaw10.MachineAlone", spec := "machineAlone", unfollowed := true, recurses := true, named := ["queuelab/machine.least", "queuelab/machine.most"], apart := false, laid := [("queuelab/machine.least", laid_queuelab_machine_least), ("queuelab/machine.most", laid_queuelab_machine_most)] }
def MachineAloneSaid : Prop := machineAloneRow.holds Tryd.pinned (OpenSpec.ofChange machineAloneSpec)

/-- ITS FALSE NEIGHBOUR: 'it returns false'. Refute it at one input. -/
def machineAloneWrong : ChangeSpec := { name := "machineAlone", fn := fun _ => fun
  | [d1, d2, d3, d4] => { results := [.lit (.bool false)], args := [d1, d2, d3, d4] }
  | _ => none }
def MachineAloneWrongFalsely : Prop := machineAloneRow.holds Tryd.pinned (OpenSpec.ofChange machineAloneWrong)

/- THE SECOND FORM. 'bulk': how many values and letters a reading holds, each counted each time it is reached (what is shared counts as often as it is met; a slice's spare places count too). A statement '..UptoSaid' is the law's where the arguments, and the package variables that the reading takes, are together of bulk at most 1048576: NARROWER than '..Said'. Prove '..Said' where nothing that the law and all that it calls make is longer than what came in: it says more and counts as full. Else prove '..UptoSaid'. A law counts once. -/
mutual
def uptoBulk {H : Type} : DataW H → Nat
  | .lit (.string bytes) => bytes.length + 1
  | .lit _ => 1
  | .nil => 1
  | .ptr d => uptoBulk d + 1
  | .slice elems spare => uptoBulkAll elems + uptoBulkAll spare + 1
  | .agg parts => uptoBulkAll parts + 1
  | .iface _ d => uptoBulk d + 1
  | .map entries => uptoBulkEntries entries + 1
  | .held _ => 1
def uptoBulkAll {H : Type} : List (DataW H) → Nat
  | [] => 0
  | d :: r => uptoBulk d + uptoBulkAll r
def uptoBulkEntries {H : Type} : List (Lit × DataW H) → Nat
  | [] => 0
  | x :: r => uptoBulkEntry x + uptoBulkEntries r
def uptoBulkEntry {H : Type} : Lit × DataW H → Nat
  | (.string bytes, d) => bytes.length + uptoBulk d + 1
  | (_, d) => uptoBulk d + 1
 end
def uptoSmall : (H : Type) → List (DataW H) → Bool := fun _ ds => decide (uptoBulkAll ds ≤ 1048576)
def OpenSpec.upto (s : _root_.Go.ChangeSpec) : _root_.Go.OpenSpec := { _root_.Go.OpenSpec.ofChange s with cond := some uptoSmall }

/-- 'queuelablaw10.MachineMatchesReference', WHERE WHAT IT READS IS OF BULK AT MOST 1048576: true; the input reads as it did. -/
def machineMatchesReferenceUptoRow : OpenClaim := { program := "ytimmncjdknlegaadoor", sum := "cd19031dc11ca20ffd8087d0a894becaf072abb9916e4094a71fdb7c38491fe9", func := "queuelab/queuelablaw10.MachineMatchesReference", spec := "machineMatchesReference", unfollowed := true, recurses := true, named := ["queuelab/machine.least", "queuelab/machine.most"], apart := false, laid := [("queuelab/machine.least", laid_queuelab_machine_least), ("queuelab/machine.most", laid_queuelab_machine_most)], narrowed := true }
def MachineMatchesReferenceUptoSaid : Prop := machineMatchesReferenceUptoRow.holds Tryd.pinned (OpenSpec.upto machineMatchesReferenceSpec)

/-- 'queuelablaw10.MachineStates', WHERE WHAT IT READS IS OF BULK AT MOST 1048576: true; the input reads as it did. -/
def machineStatesUptoRow : OpenClaim := { program := "ytimmncjdknlegaadoor", sum := "cd19031dc11ca20ffd8087d0a894becaf072abb9916e4094a71fdb7c38491fe9", func := "queuelab/queuelablaw10.MachineStates", spec := "machineStates", unfollowed := true, recurses := true, named := ["queuelab/machine.least", "queuelab/machine.most"], apart := false, laid := [("queuelab/machine.least", laid_queuelab_machine_least), ("queuelab/machine.most", laid_queuelab_machine_most)], narrowed := true }
def MachineStatesUptoSaid : Prop := machineStatesUptoRow.holds Tryd.pinned (OpenSpec.upto machineStatesSpec)

/-- 'queuelablaw10.MachineParts', WHERE WHAT IT READS IS OF BULK AT MOST 1048576: true; the input reads as it did. -/
def machinePartsUptoRow : OpenClaim := { program := "ytimmncjdknlegaadoor", sum := "cd19031dc11ca20ffd8087d0a894becaf072abb9916e4094a71fdb7c38491fe9", func := "queuelab/queuelablaw10.MachineParts", spec := "machineParts", unfollowed := true, recurses := true, named := ["queuelab/machine.least", "queuelab/machine.most"], apart := false, laid := [("queuelab/machine.least", laid_queuelab_machine_least), ("queuelab/machine.most", laid_queuelab_machine_most)], narrowed := true }
def MachinePartsUptoSaid : Prop := machinePartsUptoRow.holds Tryd.pinned (OpenSpec.upto machinePartsSpec)

/-- 'queuelablaw10.MachineAlone', WHERE WHAT IT READS IS OF BULK AT MOST 1048576: true; the input reads as it did. -/
def machineAloneUptoRow : OpenClaim := { program := "ytimmncjdknlegaadoor", sum := "cd19031dc11ca20ffd8087d0a894becaf072abb9916e4094a71fdb7c38491fe9", func := "queuelab/queuelablaw10.MachineAlone", spec := "machineAlone", unfollowed := true, recurses := true, named := ["queuelab/machine.least", "queuelab/machine.most"], apart := false, laid := [("queuelab/machine.least", laid_queuelab_machine_least), ("queuelab/machine.most", laid_queuelab_machine_most)], narrowed := true }
def MachineAloneUptoSaid : Prop := machineAloneUptoRow.holds Tryd.pinned (OpenSpec.upto machineAloneSpec)

end Rows
end Go.Proofs.YtimmncjdknlegaaDoor
