/-
  NARROWER THAN 'FOR EVERY INPUT', by the rows' own cells (each row's printed sentence says how): MeaningMatchesReference: loops · MeaningStates: loops · MeaningParts: loops · MeaningChoice: loops · MeaningRest: loops · MeaningInputs: loops.
  DERIVED. THE GIVEN ROWS OF THIS SEAT. 6 by the template 'for every input the law returns true; each argument reads behind the call as it read before'; 0 by the template 'total and deterministic' (their statements: YtpfjlifneibhfaaGreatTotals.lean).
  GIVEN WITH THE SEED: the statements are not yours to turn. If you find one false, say at which input.
  Laid BY PROGRAM, IN A SANDBOX (cutbox-rows.mjs): the forced cells as the released guide's own fill.sh prints them over the translation d296af8c8f365f4b… (all of the seat's roots in one cut). By AI agents, Wed Nov 11 2026. No macro, syntax, notation, axiom, sorry.
-/
import Derived.Test.YtpfjlifneibhfaaGreatChecked
import GoSem.Claim
import GoSem.ClaimJoined
import GoSem.ClaimMapViews
import Derived.JoinedTies
import Derived.KernelRfl
namespace Go.Proofs.YtpfjlifneibhfaaGreat
/- THE CELL 'sum', in the pinned program and in every row, IS THE sha256 OF THE DUMP (.gsa) THAT YtpfjlifneibhfaaGreatProg.lean LOADS. Nothing in Lean hashes anything: it is a label: what it is worth is what the hold of that sum in a sandbox is worth. -/
noncomputable def Tryz.pinned : Pinned := { name := "ytpfjlifneibhfaagreat", sum := "d296af8c8f365f4b6a3b42267b21fa8a1fad8d864e4bef0c36112909efd8f71e", checked := Tryz.checked }
namespace Rows
def none {H : Type} : Left H := { results := [], args := [] }

/-- 'queuelablaw08.MeaningMatchesReference': WHATEVER THE INPUT: true; the input reads as it did. -/
def meaningMatchesReferenceSpec : ChangeSpec := { name := "meaningMatchesReference", fn := fun _ => fun
  | [d1, d2, d3, d4] => { results := [.lit (.bool true)], args := [d1, d2, d3, d4] }
  | _ => none }
def meaningMatchesReferenceRow : OpenClaim := { program := "ytpfjlifneibhfaagreat", sum := "d296af8c8f365f4b6a3b42267b21fa8a1fad8d864e4bef0c36112909efd8f71e", func := "queuelab/queuelablaw08.MeaningMatchesReference", spec := "meaningMatchesReference", unfollowed := true, recurses := true, loops := true, apart := false }
def MeaningMatchesReferenceSaid : Prop := meaningMatchesReferenceRow.holds Tryz.pinned (OpenSpec.ofChange meaningMatchesReferenceSpec)

/-- ITS FALSE NEIGHBOUR: 'it returns false'. Refute it at one input. -/
def meaningMatchesReferenceWrong : ChangeSpec := { name := "meaningMatchesReference", fn := fun _ => fun
  | [d1, d2, d3, d4] => { results := [.lit (.bool false)], args := [d1, d2, d3, d4] }
  | _ => none }
def MeaningMatchesReferenceWrongFalsely : Prop := meaningMatchesReferenceRow.holds Tryz.pinned (OpenSpec.ofChange meaningMatchesReferenceWrong)

/-- 'queuelablaw08.MeaningStates': WHATEVER THE INPUT: true; the input reads as it did. -/
def meaningStatesSpec : ChangeSpec := { name := "meaningStates", fn := fun _ => fun
  | [d1, d2, d3] => { results := [.lit (.bool true)], args := [d1, d2, d3] }
  | _ => none }
def meaningStatesRow : OpenClaim := { program := "ytpfjlifneibhfaagreat", sum := "d296af8c8f365f4b6a3b42267b21fa8a1fad8d864e4bef0c36112909efd8f71e", func := "queuelab/queuelablaw08.MeaningStates", spec := "meaningStates", unfollowed := true, recurses := true, loops := true, apart := false }
def MeaningStatesSaid : Prop := meaningStatesRow.holds Tryz.pinned (OpenSpec.ofChange meaningStatesSpec)

/-- ITS FALSE NEIGHBOUR: 'it returns false'. Refute it at one input. -/
def meaningStatesWrong : ChangeSpec := { name := "meaningStates", fn := fun _ => fun
  | [d1, d2, d3] => { results := [.lit (.bool false)], args := [d1, d2, d3] }
  | _ => none }
def MeaningStatesWrongFalsely : Prop := meaningStatesRow.holds Tryz.pinned (OpenSpec.ofChange meaningStatesWrong)

/-- 'queuelablaw08.MeaningParts': WHATEVER THE INPUT: true; the input reads as it did. -/
def meaningPartsSpec : ChangeSpec := { name := "meaningParts", fn := fun _ => fun
  | [d1, d2, d3, d4] => { results := [.lit (.bool true)], args := [d1, d2, d3, d4] }
  | _ => none }
def meaningPartsRow : OpenClaim := { program := "ytpfjlifneibhfaagreat", sum := "d296af8c8f365f4b6a3b42267b21fa8a1fad8d864e4bef0c36112909efd8f71e", func := "queuelab/queuelablaw08.MeaningParts", spec := "meaningParts", unfollowed := true, recurses := true, loops := true, apart := false }
def MeaningPartsSaid : Prop := meaningPartsRow.holds Tryz.pinned (OpenSpec.ofChange meaningPartsSpec)

/-- ITS FALSE NEIGHBOUR: 'it returns false'. Refute it at one input. -/
def meaningPartsWrong : ChangeSpec := { name := "meaningParts", fn := fun _ => fun
  | [d1, d2, d3, d4] => { results := [.lit (.bool false)], args := [d1, d2, d3, d4] }
  | _ => none }
def MeaningPartsWrongFalsely : Prop := meaningPartsRow.holds Tryz.pinned (OpenSpec.ofChange meaningPartsWrong)

/-- 'queuelablaw08.MeaningChoice': WHATEVER THE INPUT: true; the input reads as it did. -/
def meaningChoiceSpec : ChangeSpec := { name := "meaningChoice", fn := fun _ => fun
  | [d1, d2, d3] => { results := [.lit (.bool true)], args := [d1, d2, d3] }
  | _ => none }
def meaningChoiceRow : OpenClaim := { program := "ytpfjlifneibhfaagreat", sum := "d296af8c8f365f4b6a3b42267b21fa8a1fad8d864e4bef0c36112909efd8f71e", func := "queuelab/queuelablaw08.MeaningChoice", spec := "meaningChoice", unfollowed := true, recurses := true, loops := true, apart := false }
def MeaningChoiceSaid : Prop := meaningChoiceRow.holds Tryz.pinned (OpenSpec.ofChange meaningChoiceSpec)

/-- ITS FALSE NEIGHBOUR: 'it returns false'. Refute it at one input. -/
def meaningChoiceWrong : ChangeSpec := { name := "meaningChoice", fn := fun _ => fun
  | [d1, d2, d3] => { results := [.lit (.bool false)], args := [d1, d2, d3] }
  | _ => none }
def MeaningChoiceWrongFalsely : Prop := meaningChoiceRow.holds Tryz.pinned (OpenSpec.ofChange meaningChoiceWrong)

/-- 'queuelablaw08.MeaningRest': WHATEVER THE INPUT: true; the input reads as it did. -/
def meaningRestSpec : ChangeSpec := { name := "meaningRest", fn := fun _ => fun
  | [d1, d2, d3] => { results := [.lit (.bool true)], args := [d1, d2, d3] }
  | _ => none }
def meaningRestRow : OpenClaim := { program := "ytpfjlifneibhfaagreat", sum := "d296af8c8f365f4b6a3b42267b21fa8a1fad8d864e4bef0c36112909efd8f71e", func := "queuelab/queuelablaw08.MeaningRest", spec := "meaningRest", unfollowed := true, recurses := true, loops := true, apart := false }
def MeaningRestSaid : Prop := meaningRestRow.holds Tryz.pinned (OpenSpec.ofChange meaningRestSpec)

/-- ITS FALSE NEIGHBOUR: 'it returns false'. Refute it at one input. -/
def meaningRestWrong : ChangeSpec := { name := "meaningRest", fn := fun _ => fun
  | [d1, d2, d3] => { results := [.lit (.bool false)], args := [d1, d2, d3] }
  | _ => none }
def MeaningRestWrongFalsely : Prop := meaningRestRow.holds Tryz.pinned (OpenSpec.ofChange meaningRestWrong)

/-- 'queuelablaw08.MeaningInputs': WHATEVER THE INPUT: true; the input reads as it did. -/
def meaningInputsSpec : ChangeSpec := { name := "meaningInputs", fn := fun _ => fun
  | [d1, d2, d3, d4, d5] => { results := [.lit (.bool true)], args := [d1, d2, d3, d4, d5] }
  | _ => none }
def meaningInputsRow : OpenClaim := { program := "ytpfjlifneibhfaagreat", sum := "d296af8c8f365f4b6a3b42267b21fa8a1fad8d864e4bef0c36112909efd8f71e", func := "queuelab/queuelablaw08.MeaningInputs", spec := "meaningInputs", unfollowed := true, recurses := true, loops := true, apart := false }
def MeaningInputsSaid : Prop := meaningInputsRow.holds Tryz.pinned (OpenSpec.ofChange meaningInputsSpec)

/-- ITS FALSE NEIGHBOUR: 'it returns false'. Refute it at one input. -/
def meaningInputsWrong : ChangeSpec := { name := "meaningInputs", fn := fun _ => fun
  | [d1, d2, d3, d4, d5] => { results := [.lit (.bool false)], args := [d1, d2, d3, d4, d5] }
  | _ => none }
def MeaningInputsWrongFalsely : Prop := meaningInputsRow.holds Tryz.pinned (OpenSpec.ofChange meaningInputsWrong)

/- THE SECOND FORM. 'bulk': how many values and letters a reading holds, each counted each time it is reached (what is shared counts as often as it is met; a slice's spare places count too). A statement '..UptoSaid' is the law's where the arguments, and the package variables that the reading takes, are together of bulk at most 1048576: NARROWER than '..Said'. Prove '..Said' where nothing that the law and all that it calls make is longer than what came in: it says more and counts as full. Else prove '..UptoSaid'. A law counts once. -/
mutual
def uptoBulk {H : Type} : DataW H → Nat
  | .lit (.string bytes) => bytes.length + 1
  | .lit _ => 1
  | .nil => 1
  | .ptr d => uptoBulk d + 1
  | .slice elems spare => uptoBulkAll elems + uptoBulkAll spare + 1
  | .agg parts => uptoBulkAll parts + 1
  | .iface _ d => uptoBulk d + 1
  | .map entries => uptoBulkEntries entries + 1
  | .held _ => 1
def uptoBulkAll {H : Type} : List (DataW H) → Nat
  | [] => 0
  | d :: r => uptoBulk d + uptoBulkAll r
def uptoBulkEntries {H : Type} : List (Lit × DataW H) → Nat
  | [] => 0
  | x :: r => uptoBulkEntry x + uptoBulkEntries r
def uptoBulkEntry {H : Type} : Lit × DataW H → Nat
  | (.string bytes, d) => bytes.length + uptoBulk d + 1
  | (_, d) => uptoBulk d + 1
 end
def uptoSmall : (H : Type) → List (DataW H) → Bool := fun _ ds => decide (uptoBulkAll ds ≤ 1048576)
def OpenSpec.upto (s : _root_.Go.ChangeSpec) : _root_.Go.OpenSpec := { _root_.Go.OpenSpec.ofChange s with cond := some uptoSmall }

/-- 'queuelablaw08.MeaningMatchesReference', WHERE WHAT IT READS IS OF BULK AT MOST 1048576: true; the input reads as it did. -/
def meaningMatchesReferenceUptoRow : OpenClaim := { program := "ytpfjlifneibhfaagreat", sum := "d296af8c8f365f4b6a3b42267b21fa8a1fad8d864e4bef0c36112909efd8f71e", func := "queuelab/queuelablaw08.MeaningMatchesReference", spec := "meaningMatchesReference", unfollowed := true, recurses := true, loops := true, apart := false, narrowed := true }
def MeaningMatchesReferenceUptoSaid : Prop := meaningMatchesReferenceUptoRow.holds Tryz.pinned (OpenSpec.upto meaningMatchesReferenceSpec)

/-- 'queuelablaw08.MeaningStates', WHERE WHAT IT READS IS OF BULK AT MOST 1048576: true; the input reads as it did. -/
def meaningStatesUptoRow : OpenClaim := { program := "ytpfjlifneibhfaagreat", sum := "d296af8c8f365f4b6a3b42267b21fa8a1fad8d864e4bef0c36112909efd8f71e", func := "queuelab/queuelablaw08.MeaningStates", spec := "meaningStates", unfollowed := true, recurses := true, loops := true, apart := false, narrowed := true }
def MeaningStatesUptoSaid : Prop := meaningStatesUptoRow.holds Tryz.pinned (OpenSpec.upto meaningStatesSpec)

/-- 'queuelablaw08.MeaningParts', WHERE WHAT IT READS IS OF BULK AT MOST 1048576: true; the input reads as it did. -/
def meaningPartsUptoRow : OpenClaim := { program := "ytpfjlifneibhfaagreat", sum := "d296af8c8f365f4b6a3b42267b21fa8a1fad8d864e4bef0c36112909efd8f71e", func := "queuelab/queuelablaw08.MeaningParts", spec := "meaningParts", unfollowed := true, recurses := true, loops := true, apart := false, narrowed := true }
def MeaningPartsUptoSaid : Prop := meaningPartsUptoRow.holds Tryz.pinned (OpenSpec.upto meaningPartsSpec)

/-- 'queuelablaw08.MeaningChoice', WHERE WHAT IT READS IS OF BULK AT MOST 1048576: true; the input reads as it did. -/
def meaningChoiceUptoRow : OpenClaim := { program := "ytpfjlifneibhfaagreat", sum := "d296af8c8f365f4b6a3b42267b21fa8a1fad8d864e4bef0c36112909efd8f71e", func := "queuelab/queuelablaw08.MeaningChoice", spec := "meaningChoice", unfollowed := true, recurses := true, loops := true, apart := false, narrowed := true }
def MeaningChoiceUptoSaid : Prop := meaningChoiceUptoRow.holds Tryz.pinned (OpenSpec.upto meaningChoiceSpec)

/-- 'queuelablaw08.MeaningRest', WHERE WHAT IT READS IS OF BULK AT MOST 1048576: true; the input reads as it did. -/
def meaningRestUptoRow : OpenClaim := { program := "ytpfjlifneibhfaagreat", sum := "d296af8c8f365f4b6a3b42267b21fa8a1fad8d864e4bef0c36112909efd8f71e", func := "queuelab/queuelablaw08.MeaningRest", spec := "meaningRest", unfollowed := true, recurses := true, loops := true, apart := false, narrowed := true }
def MeaningRestUptoSaid : Prop := meaningRestUptoRow.holds Tryz.pinned (OpenSpec.upto meaningRestSpec)

/-- 'queuelablaw08.MeaningInputs', WHERE WHAT IT READS IS OF BULK AT MOST 1048576: true; the input reads as it did. -/
def meaningInputsUptoRow : OpenClaim := { program := "ytpfjlifneibhfaagreat", sum := "d296af8c8f365f4b6a3b42267b21fa8a1fad8d864e4bef0c36112909efd8f71e", func := "queuelab/queuelablaw08.MeaningInputs", spec := "meaningInputs", unfollowed := true, recurses := true, loops := true, apart := false, narrowed := true }
def MeaningInputsUptoSaid : Prop := meaningInputsUptoRow.holds Tryz.pinned (OpenSpec.upto meaningInputsSpec)

end Rows
end Go.Proofs.YtpfjlifneibhfaaGreat
