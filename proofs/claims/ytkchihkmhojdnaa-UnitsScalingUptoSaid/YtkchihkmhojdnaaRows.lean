/-
  NARROWER THAN 'FOR EVERY INPUT', by the rows' own cells (each row's printed sentence says how): UnitsMatchesReference: loops · UnitsOperations: loops · UnitsErrors: loops · UnitsScaling: loops · UnitsHandlers: loops · UnitsNames: loops.
  DERIVED. THE GIVEN ROWS OF THIS SEAT. 6 by the template 'for every input the law returns true; each argument reads behind the call as it read before'; 0 by the template 'total and deterministic' (their statements: YtkchihkmhojdnaaTotals.lean).
  GIVEN WITH THE SEED: the statements are not yours to turn. If you find one false, say at which input.
  Laid BY PROGRAM, IN A SANDBOX (cutbox-rows.mjs): the forced cells as the released guide's own fill.sh prints them over the translation b0b7bb1f60a2798d… (all of the seat's roots in one cut). By AI agents, Wed Nov 11 2026. No macro, syntax, notation, axiom, sorry.
-/
import Derived.Test.YtkchihkmhojdnaaChecked
import GoSem.Claim
import GoSem.ClaimJoined
import GoSem.ClaimMapViews
import Derived.JoinedTies
import Derived.KernelRfl
namespace Go.Proofs.Ytkchihkmhojdnaa
/- THE CELL 'sum', in the pinned program and in every row, IS THE sha256 OF THE DUMP (.gsa) THAT YtkchihkmhojdnaaProg.lean LOADS. Nothing in Lean hashes anything: it is a label: what it is worth is what the hold of that sum in a sandbox is worth. -/
noncomputable def Try.pinned : Pinned := { name := "ytkchihkmhojdnaa", sum := "b0b7bb1f60a2798d2ee4d8a1e2074eb44d50241a34b54a0aaf2ade5a5a8a5735", checked := Try.checked }
namespace Rows
def none {H : Type} : Left H := { results := [], args := [] }

/-- 'queuelablaw04.UnitsMatchesReference': WHATEVER THE INPUT: true; the input reads as it did. -/
def unitsMatchesReferenceSpec : ChangeSpec := { name := "unitsMatchesReference", fn := fun _ => fun
  | [d1, d2, d3] => { results := [.lit (.bool true)], args := [d1, d2, d3] }
  | _ => none }
def unitsMatchesReferenceRow : OpenClaim := { program := "ytkchihkmhojdnaa", sum := "b0b7bb1f60a2798d2ee4d8a1e2074eb44d50241a34b54a0aaf2ade5a5a8a5735", func := "queuelab/queuelablaw04.UnitsMatchesReference", spec := "unitsMatchesReference", unfollowed := true, recurses := true, loops := true, apart := false }
def UnitsMatchesReferenceSaid : Prop := unitsMatchesReferenceRow.holds Try.pinned (OpenSpec.ofChange unitsMatchesReferenceSpec)

/-- ITS FALSE NEIGHBOUR: 'it returns false'. Refute it at one input. -/
def unitsMatchesReferenceWrong : ChangeSpec := { name := "unitsMatchesReference", fn := fun _ => fun
  | [d1, d2, d3] => { results := [.lit (.bool false)], args := [d1, d2, d3] }
  | _ => none }
def UnitsMatchesReferenceWrongFalsely : Prop := unitsMatchesReferenceRow.holds Try.pinned (OpenSpec.ofChange unitsMatchesReferenceWrong)

/-- 'queuelablaw04.UnitsOperations': WHATEVER THE INPUT: true; the input reads as it did. -/
def unitsOperationsSpec : ChangeSpec := { name := "unitsOperations", fn := fun _ => fun
  | [d1, d2, d3] => { results := [.lit (.bool true)], args := [d1, d2, d3] }
  | _ => none }
def unitsOperationsRow : OpenClaim := { program := "ytkchihkmhojdnaa", sum := "b0b7bb1f60a2798d2ee4d8a1e2074eb44d50241a34b54a0aaf2ade5a5a8a5735", func := "queuelab/queuelablaw04.UnitsOperations", spec := "unitsOperations", unfollowed := true, recurses := true, loops := true, apart := false }
def UnitsOperationsSaid : Prop := unitsOperationsRow.holds Try.pinned (OpenSpec.ofChange unitsOperationsSpec)

/-- ITS FALSE NEIGHBOUR: 'it returns false'. Refute it at one input. -/
def unitsOperationsWrong : ChangeSpec := { name := "unitsOperations", fn := fun _ => fun
  | [d1, d2, d3] => { results := [.lit (.bool false)], args := [d1, d2, d3] }
  | _ => none }
def UnitsOperationsWrongFalsely : Prop := unitsOperationsRow.holds Try.pinned (OpenSpec.ofChange unitsOperationsWrong)

/-- 'queuelablaw04.UnitsErrors': WHATEVER THE INPUT: true; the input reads as it did. -/
def unitsErrorsSpec : ChangeSpec := { name := "unitsErrors", fn := fun _ => fun
  | [d1, d2, d3, d4] => { results := [.lit (.bool true)], args := [d1, d2, d3, d4] }
  | _ => none }
def unitsErrorsRow : OpenClaim := { program := "ytkchihkmhojdnaa", sum := "b0b7bb1f60a2798d2ee4d8a1e2074eb44d50241a34b54a0aaf2ade5a5a8a5735", func := "queuelab/queuelablaw04.UnitsErrors", spec := "unitsErrors", unfollowed := true, recurses := true, loops := true, apart := false }
def UnitsErrorsSaid : Prop := unitsErrorsRow.holds Try.pinned (OpenSpec.ofChange unitsErrorsSpec)

/-- ITS FALSE NEIGHBOUR: 'it returns false'. Refute it at one input. -/
def unitsErrorsWrong : ChangeSpec := { name := "unitsErrors", fn := fun _ => fun
  | [d1, d2, d3, d4] => { results := [.lit (.bool false)], args := [d1, d2, d3, d4] }
  | _ => none }
def UnitsErrorsWrongFalsely : Prop := unitsErrorsRow.holds Try.pinned (OpenSpec.ofChange unitsErrorsWrong)

/-- 'queuelablaw04.UnitsScaling': WHATEVER THE INPUT: true; the input reads as it did. -/
def unitsScalingSpec : ChangeSpec := { name := "unitsScaling", fn := fun _ => fun
  | [d1, d2, d3, d4, d5] => { results := [.lit (.bool true)], args := [d1, d2, d3, d4, d5] }
  | _ => none }
def unitsScalingRow : OpenClaim := { program := "ytkchihkmhojdnaa", sum := "b0b7bb1f60a2798d2ee4d8a1e2074eb44d50241a34b54a0aaf2ade5a5a8a5735", func := "queuelab/queuelablaw04.UnitsScaling", spec := "unitsScaling", unfollowed := true, recurses := true, loops := true, apart := false }
def UnitsScalingSaid : Prop := unitsScalingRow.holds Try.pinned (OpenSpec.ofChange unitsScalingSpec)

/-- ITS FALSE NEIGHBOUR: 'it returns false'. Refute it at one input. -/
def unitsScalingWrong : ChangeSpec := { name := "unitsScaling", fn := fun _ => fun
  | [d1, d2, d3, d4, d5] => { results := [.lit (.bool false)], args := [d1, d2, d3, d4, d5] }
  | _ => none }
def UnitsScalingWrongFalsely : Prop := unitsScalingRow.holds Try.pinned (OpenSpec.ofChange unitsScalingWrong)

/-- 'queuelablaw04.UnitsHandlers': WHATEVER THE INPUT: true; the input reads as it did. -/
def unitsHandlersSpec : ChangeSpec := { name := "unitsHandlers", fn := fun _ => fun
  | [d] => { results := [.lit (.bool true)], args := [d] }
  | _ => none }
def unitsHandlersRow : OpenClaim := { program := "ytkchihkmhojdnaa", sum := "b0b7bb1f60a2798d2ee4d8a1e2074eb44d50241a34b54a0aaf2ade5a5a8a5735", func := "queuelab/queuelablaw04.UnitsHandlers", spec := "unitsHandlers", unfollowed := true, recurses := true, loops := true, apart := false }
def UnitsHandlersSaid : Prop := unitsHandlersRow.holds Try.pinned (OpenSpec.ofChange unitsHandlersSpec)

/-- ITS FALSE NEIGHBOUR: 'it returns false'. Refute it at one input. -/
def unitsHandlersWrong : ChangeSpec := { name := "unitsHandlers", fn := fun _ => fun
  | [d] => { results := [.lit (.bool false)], args := [d] }
  | _ => none }
def UnitsHandlersWrongFalsely : Prop := unitsHandlersRow.holds Try.pinned (OpenSpec.ofChange unitsHandlersWrong)

/-- 'queuelablaw04.UnitsNames': WHATEVER THE INPUT: true; the input reads as it did. -/
def unitsNamesSpec : ChangeSpec := { name := "unitsNames", fn := fun _ => fun
  | [d1, d2, d3, d4, d5] => { results := [.lit (.bool true)], args := [d1, d2, d3, d4, d5] }
  | _ => none }
def unitsNamesRow : OpenClaim := { program := "ytkchihkmhojdnaa", sum := "b0b7bb1f60a2798d2ee4d8a1e2074eb44d50241a34b54a0aaf2ade5a5a8a5735", func := "queuelab/queuelablaw04.UnitsNames", spec := "unitsNames", unfollowed := true, recurses := true, loops := true, apart := false }
def UnitsNamesSaid : Prop := unitsNamesRow.holds Try.pinned (OpenSpec.ofChange unitsNamesSpec)

/-- ITS FALSE NEIGHBOUR: 'it returns false'. Refute it at one input. -/
def unitsNamesWrong : ChangeSpec := { name := "unitsNames", fn := fun _ => fun
  | [d1, d2, d3, d4, d5] => { results := [.lit (.bool false)], args := [d1, d2, d3, d4, d5] }
  | _ => none }
def UnitsNamesWrongFalsely : Prop := unitsNamesRow.holds Try.pinned (OpenSpec.ofChange unitsNamesWrong)

/- THE SECOND FORM. 'bulk': how many values and letters a reading holds, each counted each time it is reached (what is shared counts as often as it is met; a slice's spare places count too). A statement '..UptoSaid' is the law's where the arguments, and the package variables that the reading takes, are together of bulk at most 1048576: NARROWER than '..Said'. Prove '..Said' where nothing that the law and all that it calls make is longer than what came in: it says more and counts as full. Else prove '..UptoSaid'. A law counts once. -/
mutual
def uptoBulk {H : Type} : DataW H → Nat
  | .lit (.string bytes) => bytes.length + 1
  | .lit _ => 1
  | .nil => 1
  | .ptr d => uptoBulk d + 1
  | .slice elems spare => uptoBulkAll elems + uptoBulkAll spare + 1
  | .agg parts => uptoBulkAll parts + 1
  | .iface _ d => uptoBulk d + 1
  | .map entries => uptoBulkEntries entries + 1
  | .held _ => 1
def uptoBulkAll {H : Type} : List (DataW H) → Nat
  | [] => 0
  | d :: r => uptoBulk d + uptoBulkAll r
def uptoBulkEntries {H : Type} : List (Lit × DataW H) → Nat
  | [] => 0
  | x :: r => uptoBulkEntry x + uptoBulkEntries r
def uptoBulkEntry {H : Type} : Lit × DataW H → Nat
  | (.string bytes, d) => bytes.length + uptoBulk d + 1
  | (_, d) => uptoBulk d + 1
 end
def uptoSmall : (H : Type) → List (DataW H) → Bool := fun _ ds => decide (uptoBulkAll ds ≤ 1048576)
def OpenSpec.upto (s : _root_.Go.ChangeSpec) : _root_.Go.OpenSpec := { _root_.Go.OpenSpec.ofChange s with cond := some uptoSmall }

/-- 'queuelablaw04.UnitsMatchesReference', WHERE WHAT IT READS IS OF BULK AT MOST 1048576: true; the input reads as it did. -/
def unitsMatchesReferenceUptoRow : OpenClaim := { program := "ytkchihkmhojdnaa", sum := "b0b7bb1f60a2798d2ee4d8a1e2074eb44d50241a34b54a0aaf2ade5a5a8a5735", func := "queuelab/queuelablaw04.UnitsMatchesReference", spec := "unitsMatchesReference", unfollowed := true, recurses := true, loops := true, apart := false, narrowed := true }
def UnitsMatchesReferenceUptoSaid : Prop := unitsMatchesReferenceUptoRow.holds Try.pinned (OpenSpec.upto unitsMatchesReferenceSpec)

/-- 'queuelablaw04.UnitsOperations', WHERE WHAT IT READS IS OF BULK AT MOST 1048576: true; the input reads as it did. -/
def unitsOperationsUptoRow : OpenClaim := { program := "ytkchihkmhojdnaa", sum := "b0b7bb1f60a2798d2ee4d8a1e2074eb44d50241a34b54a0aaf2ade5a5a8a5735", func := "queuelab/queuelablaw04.UnitsOperations", spec := "unitsOperations", unfollowed := true, recurses := true, loops := true, apart := false, narrowed := true }
def UnitsOperationsUptoSaid : Prop := unitsOperationsUptoRow.holds Try.pinned (OpenSpec.upto unitsOperationsSpec)

/-- 'queuelablaw04.UnitsErrors', WHERE WHAT IT READS IS OF BULK AT MOST 1048576: true; the input reads as it did. -/
def unitsErrorsUptoRow : OpenClaim := { program := "ytkchihkmhojdnaa", sum := "b0b7bb1f60a2798d2ee4d8a1e2074eb44d50241a34b54a0aaf2ade5a5a8a5735", func := "queuelab/queuelablaw04.UnitsErrors", spec := "unitsErrors", unfollowed := true, recurses := true, loops := true, apart := false, narrowed := true }
def UnitsErrorsUptoSaid : Prop := unitsErrorsUptoRow.holds Try.pinned (OpenSpec.upto unitsErrorsSpec)

/-- 'queuelablaw04.UnitsScaling', WHERE WHAT IT READS IS OF BULK AT MOST 1048576: true; the input reads as it did. -/
def unitsScalingUptoRow : OpenClaim := { program := "ytkchihkmhojdnaa", sum := "b0b7bb1f60a2798d2ee4d8a1e2074eb44d50241a34b54a0aaf2ade5a5a8a5735", func := "queuelab/queuelablaw04.UnitsScaling", spec := "unitsScaling", unfollowed := true, recurses := true, loops := true, apart := false, narrowed := true }
def UnitsScalingUptoSaid : Prop := unitsScalingUptoRow.holds Try.pinned (OpenSpec.upto unitsScalingSpec)

/-- 'queuelablaw04.UnitsHandlers', WHERE WHAT IT READS IS OF BULK AT MOST 1048576: true; the input reads as it did. -/
def unitsHandlersUptoRow : OpenClaim := { program := "ytkchihkmhojdnaa", sum := "b0b7bb1f60a2798d2ee4d8a1e2074eb44d50241a34b54a0aaf2ade5a5a8a5735", func := "queuelab/queuelablaw04.UnitsHandlers", spec := "unitsHandlers", unfollowed := true, recurses := true, loops := true, apart := false, narrowed := true }
def UnitsHandlersUptoSaid : Prop := unitsHandlersUptoRow.holds Try.pinned (OpenSpec.upto unitsHandlersSpec)

/-- 'queuelablaw04.UnitsNames', WHERE WHAT IT READS IS OF BULK AT MOST 1048576: true; the input reads as it did. -/
def unitsNamesUptoRow : OpenClaim := { program := "ytkchihkmhojdnaa", sum := "b0b7bb1f60a2798d2ee4d8a1e2074eb44d50241a34b54a0aaf2ade5a5a8a5735", func := "queuelab/queuelablaw04.UnitsNames", spec := "unitsNames", unfollowed := true, recurses := true, loops := true, apart := false, narrowed := true }
def UnitsNamesUptoSaid : Prop := unitsNamesUptoRow.holds Try.pinned (OpenSpec.upto unitsNamesSpec)

end Rows
end Go.Proofs.Ytkchihkmhojdnaa
