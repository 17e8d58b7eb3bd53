/-
  NARROWER THAN 'FOR EVERY INPUT', by the rows' own cells (each row's printed sentence says how): CodeMatchesReference: loops · CodeCompiles: loops · CodeSize: loops · CodeParts: loops · CodeHandlers: loops.
  DERIVED. THE GIVEN ROWS OF THIS SEAT. 7 by the template 'for every input the law returns true; each argument reads behind the call as it read before'; 0 by the template 'total and deterministic' (their statements: YtiifbdkedainnaaTotals.lean).
  GIVEN WITH THE SEED: the statements are not yours to turn. If you find one false, say at which input.
  Laid BY PROGRAM, IN A SANDBOX (cutbox-rows.mjs): the forced cells as the released guide's own fill.sh prints them over the translation 20168d3d7fb074e5… (all of the seat's roots in one cut). By AI agents, Wed Nov 11 2026. No macro, syntax, notation, axiom, sorry.
-/
import Derived.Test.YtiifbdkedainnaaChecked
import GoSem.Claim
import GoSem.ClaimJoined
import GoSem.ClaimMapViews
import Derived.JoinedTies
import Derived.KernelRfl
namespace Go.Proofs.Ytiifbdkedainnaa
/- THE CELL 'sum', in the pinned program and in every row, IS THE sha256 OF THE DUMP (.gsa) THAT YtiifbdkedainnaaProg.lean LOADS. Nothing in Lean hashes anything: it is a label: what it is worth is what the hold of that sum in a sandbox is worth. -/
noncomputable def Try.pinned : Pinned := { name := "ytiifbdkedainnaa", sum := "20168d3d7fb074e5beee78dccc16b406fd9fa62321cf7cddbbd82e495e43dcc0", checked := Try.checked }
namespace Rows
def none {H : Type} : Left H := { results := [], args := [] }

/-- 'queuelablaw09.CodeMatchesReference': WHATEVER THE INPUT: true; the input reads as it did. -/
def codeMatchesReferenceSpec : ChangeSpec := { name := "codeMatchesReference", fn := fun _ => fun
  | [d1, d2, d3] => { results := [.lit (.bool true)], args := [d1, d2, d3] }
  | _ => none }
def codeMatchesReferenceRow : OpenClaim := { program := "ytiifbdkedainnaa", sum := "20168d3d7fb074e5beee78dccc16b406fd9fa62321cf7cddbbd82e495e43dcc0", func := "queuelab/queuelablaw09.CodeMatchesReference", spec := "codeMatchesReference", unfollowed := true, recurses := true, loops := true, apart := false }
def CodeMatchesReferenceSaid : Prop := codeMatchesReferenceRow.holds Try.pinned (OpenSpec.ofChange codeMatchesReferenceSpec)

/-- ITS FALSE NEIGHBOUR: 'it returns false'. Refute it at one input. -/
def codeMatchesReferenceWrong : ChangeSpec := { name := "codeMatchesReference", fn := fun _ => fun
  | [d1, d2, d3] => { results := [.lit (.bool false)], args := [d1, d2, d3] }
  | _ => none }
def CodeMatchesReferenceWrongFalsely : Prop := codeMatchesReferenceRow.holds Try.pinned (OpenSpec.ofChange codeMatchesReferenceWrong)

/-- 'queuelablaw09.CodeCompiles': WHATEVER THE INPUT: true; the input reads as it did. -/
def codeCompilesSpec : ChangeSpec := { name := "codeCompiles", fn := fun _ => fun
  | [d] => { results := [.lit (.bool true)], args := [d] }
  | _ => none }
def codeCompilesRow : OpenClaim := { program := "ytiifbdkedainnaa", sum := "20168d3d7fb074e5beee78dccc16b406fd9fa62321cf7cddbbd82e495e43dcc0", func := "queuelab/queuelablaw09.CodeCompiles", spec := "codeCompiles", unfollowed := true, recurses := true, loops := true, apart := false }
def CodeCompilesSaid : Prop := codeCompilesRow.holds Try.pinned (OpenSpec.ofChange codeCompilesSpec)

/-- ITS FALSE NEIGHBOUR: 'it returns false'. Refute it at one input. -/
def codeCompilesWrong : ChangeSpec := { name := "codeCompiles", fn := fun _ => fun
  | [d] => { results := [.lit (.bool false)], args := [d] }
  | _ => none }
def CodeCompilesWrongFalsely : Prop := codeCompilesRow.holds Try.pinned (OpenSpec.ofChange codeCompilesWrong)

/-- 'queuelablaw09.CodeRuns': WHATEVER THE INPUT: true; the input reads as it did. -/
def codeRunsSpec : ChangeSpec := { name := "codeRuns", fn := fun _ => fun
  | [d1, d2, d3, d4] => { results := [.lit (.bool true)], args := [d1, d2, d3, d4] }
  | _ => none }
def codeRunsRow : OpenClaim := { program := "ytiifbdkedainnaa", sum := "20168d3d7fb074e5beee78dccc16b406fd9fa62321cf7cddbbd82e495e43dcc0", func := "queuelab/queuelablaw09.CodeRuns", spec := "codeRuns", unfollowed := true, recurses := true, apart := false }
def CodeRunsSaid : Prop := codeRunsRow.holds Try.pinned (OpenSpec.ofChange codeRunsSpec)

/-- ITS FALSE NEIGHBOUR: 'it returns false'. Refute it at one input. -/
def codeRunsWrong : ChangeSpec := { name := "codeRuns", fn := fun _ => fun
  | [d1, d2, d3, d4] => { results := [.lit (.bool false)], args := [d1, d2, d3, d4] }
  | _ => none }
def CodeRunsWrongFalsely : Prop := codeRunsRow.holds Try.pinned (OpenSpec.ofChange codeRunsWrong)

/-- 'queuelablaw09.CodeSize': WHATEVER THE INPUT: true; the input reads as it did. -/
def codeSizeSpec : ChangeSpec := { name := "codeSize", fn := fun _ => fun
  | [d] => { results := [.lit (.bool true)], args := [d] }
  | _ => none }
def codeSizeRow : OpenClaim := { program := "ytiifbdkedainnaa", sum := "20168d3d7fb074e5beee78dccc16b406fd9fa62321cf7cddbbd82e495e43dcc0", func := "queuelab/queuelablaw09.CodeSize", spec := "codeSize", unfollowed := true, recurses := true, loops := true, apart := false }
def CodeSizeSaid : Prop := codeSizeRow.holds Try.pinned (OpenSpec.ofChange codeSizeSpec)

/-- ITS FALSE NEIGHBOUR: 'it returns false'. Refute it at one input. -/
def codeSizeWrong : ChangeSpec := { name := "codeSize", fn := fun _ => fun
  | [d] => { results := [.lit (.bool false)], args := [d] }
  | _ => none }
def CodeSizeWrongFalsely : Prop := codeSizeRow.holds Try.pinned (OpenSpec.ofChange codeSizeWrong)

/-- 'queuelablaw09.CodeParts': WHATEVER THE INPUT: true; the input reads as it did. -/
def codePartsSpec : ChangeSpec := { name := "codeParts", fn := fun _ => fun
  | [d1, d2, d3] => { results := [.lit (.bool true)], args := [d1, d2, d3] }
  | _ => none }
def codePartsRow : OpenClaim := { program := "ytiifbdkedainnaa", sum := "20168d3d7fb074e5beee78dccc16b406fd9fa62321cf7cddbbd82e495e43dcc0", func := "queuelab/queuelablaw09.CodeParts", spec := "codeParts", unfollowed := true, recurses := true, loops := true, apart := false }
def CodePartsSaid : Prop := codePartsRow.holds Try.pinned (OpenSpec.ofChange codePartsSpec)

/-- ITS FALSE NEIGHBOUR: 'it returns false'. Refute it at one input. -/
def codePartsWrong : ChangeSpec := { name := "codeParts", fn := fun _ => fun
  | [d1, d2, d3] => { results := [.lit (.bool false)], args := [d1, d2, d3] }
  | _ => none }
def CodePartsWrongFalsely : Prop := codePartsRow.holds Try.pinned (OpenSpec.ofChange codePartsWrong)

/-- 'queuelablaw09.CodeHandlers': WHATEVER THE INPUT: true; the input reads as it did. -/
def codeHandlersSpec : ChangeSpec := { name := "codeHandlers", fn := fun _ => fun
  | [d1, d2] => { results := [.lit (.bool true)], args := [d1, d2] }
  | _ => none }
def codeHandlersRow : OpenClaim := { program := "ytiifbdkedainnaa", sum := "20168d3d7fb074e5beee78dccc16b406fd9fa62321cf7cddbbd82e495e43dcc0", func := "queuelab/queuelablaw09.CodeHandlers", spec := "codeHandlers", unfollowed := true, recurses := true, loops := true, apart := false }
def CodeHandlersSaid : Prop := codeHandlersRow.holds Try.pinned (OpenSpec.ofChange codeHandlersSpec)

/-- ITS FALSE NEIGHBOUR: 'it returns false'. Refute it at one input. -/
def codeHandlersWrong : ChangeSpec := { name := "codeHandlers", fn := fun _ => fun
  | [d1, d2] => { results := [.lit (.bool false)], args := [d1, d2] }
  | _ => none }
def CodeHandlersWrongFalsely : Prop := codeHandlersRow.holds Try.pinned (OpenSpec.ofChange codeHandlersWrong)

/-- 'queuelablaw09.CodeDamage': WHATEVER THE INPUT: true; the input reads as it did. -/
def codeDamageSpec : ChangeSpec := { name := "codeDamage", fn := fun _ => fun
  | [d1, d2, d3, d4, d5] => { results := [.lit (.bool true)], args := [d1, d2, d3, d4, d5] }
  | _ => none }
def codeDamageRow : OpenClaim := { program := "ytiifbdkedainnaa", sum := "20168d3d7fb074e5beee78dccc16b406fd9fa62321cf7cddbbd82e495e43dcc0", func := "queuelab/queuelablaw09.CodeDamage", spec := "codeDamage", unfollowed := true, recurses := true, apart := false }
def CodeDamageSaid : Prop := codeDamageRow.holds Try.pinned (OpenSpec.ofChange codeDamageSpec)

/-- ITS FALSE NEIGHBOUR: 'it returns false'. Refute it at one input. -/
def codeDamageWrong : ChangeSpec := { name := "codeDamage", fn := fun _ => fun
  | [d1, d2, d3, d4, d5] => { results := [.lit (.bool false)], args := [d1, d2, d3, d4, d5] }
  | _ => none }
def CodeDamageWrongFalsely : Prop := codeDamageRow.holds Try.pinned (OpenSpec.ofChange codeDamageWrong)

/- THE SECOND FORM. 'bulk': how many values and letters a reading holds, each counted each time it is reached (what is shared counts as often as it is met; a slice's spare places count too). A statement '..UptoSaid' is the law's where the arguments, and the package variables that the reading takes, are together of bulk at most 1048576: NARROWER than '..Said'. Prove '..Said' where nothing that the law and all that it calls make is longer than what came in: it says more and counts as full. Else prove '..UptoSaid'. A law counts once. -/
mutual
def uptoBulk {H : Type} : DataW H → Nat
  | .lit (.string bytes) => bytes.length + 1
  | .lit _ => 1
  | .nil => 1
  | .ptr d => uptoBulk d + 1
  | .slice elems spare => uptoBulkAll elems + uptoBulkAll spare + 1
  | .agg parts => uptoBulkAll parts + 1
  | .iface _ d => uptoBulk d + 1
  | .map entries => uptoBulkEntries entries + 1
  | .held _ => 1
def uptoBulkAll {H : Type} : List (DataW H) → Nat
  | [] => 0
  | d :: r => uptoBulk d + uptoBulkAll r
def uptoBulkEntries {H : Type} : List (Lit × DataW H) → Nat
  | [] => 0
  | x :: r => uptoBulkEntry x + uptoBulkEntries r
def uptoBulkEntry {H : Type} : Lit × DataW H → Nat
  | (.string bytes, d) => bytes.length + uptoBulk d + 1
  | (_, d) => uptoBulk d + 1
 end
def uptoSmall : (H : Type) → List (DataW H) → Bool := fun _ ds => decide (uptoBulkAll ds ≤ 1048576)
def OpenSpec.upto (s : _root_.Go.ChangeSpec) : _root_.Go.OpenSpec := { _root_.Go.OpenSpec.ofChange s with cond := some uptoSmall }

/-- 'queuelablaw09.CodeMatchesReference', WHERE WHAT IT READS IS OF BULK AT MOST 1048576: true; the input reads as it did. -/
def codeMatchesReferenceUptoRow : OpenClaim := { program := "ytiifbdkedainnaa", sum := "20168d3d7fb074e5beee78dccc16b406fd9fa62321cf7cddbbd82e495e43dcc0", func := "queuelab/queuelablaw09.CodeMatchesReference", spec := "codeMatchesReference", unfollowed := true, recurses := true, loops := true, apart := false, narrowed := true }
def CodeMatchesReferenceUptoSaid : Prop := codeMatchesReferenceUptoRow.holds Try.pinned (OpenSpec.upto codeMatchesReferenceSpec)

/-- 'queuelablaw09.CodeCompiles', WHERE WHAT IT READS IS OF BULK AT MOST 1048576: true; the input reads as it did. -/
def codeCompilesUptoRow : OpenClaim := { program := "ytiifbdkedainnaa", sum := "20168d3d7fb074e5beee78dccc16b406fd9fa62321cf7cddbbd82e495e43dcc0", func := "queuelab/queuelablaw09.CodeCompiles", spec := "codeCompiles", unfollowed := true, recurses := true, loops := true, apart := false, narrowed := true }
def CodeCompilesUptoSaid : Prop := codeCompilesUptoRow.holds Try.pinned (OpenSpec.upto codeCompilesSpec)

/-- 'queuelablaw09.CodeRuns', WHERE WHAT IT READS IS OF BULK AT MOST 1048576: true; the input reads as it did. -/
def codeRunsUptoRow : OpenClaim := { program := "ytiifbdkedainnaa", sum := "20168d3d7fb074e5beee78dccc16b406fd9fa62321cf7cddbbd82e495e43dcc0", func := "queuelab/queuelablaw09.CodeRuns", spec := "codeRuns", unfollowed := true, recurses := true, apart := false, narrowed := true }
def CodeRunsUptoSaid : Prop := codeRunsUptoRow.holds Try.pinned (OpenSpec.upto codeRunsSpec)

/-- 'queuelablaw09.CodeSize', WHERE WHAT IT READS IS OF BULK AT MOST 1048576: true; the input reads as it did. -/
def codeSizeUptoRow : OpenClaim := { program := "ytiifbdkedainnaa", sum := "20168d3d7fb074e5beee78dccc16b406fd9fa62321cf7cddbbd82e495e43dcc0", func := "queuelab/queuelablaw09.CodeSize", spec := "codeSize", unfollowed := true, recurses := true, loops := true, apart := false, narrowed := true }
def CodeSizeUptoSaid : Prop := codeSizeUptoRow.holds Try.pinned (OpenSpec.upto codeSizeSpec)

/-- 'queuelablaw09.CodeParts', WHERE WHAT IT READS IS OF BULK AT MOST 1048576: true; the input reads as it did. -/
def codePartsUptoRow : OpenClaim := { program := "ytiifbdkedainnaa", sum := "20168d3d7fb074e5beee78dccc16b406fd9fa62321cf7cddbbd82e495e43dcc0", func := "queuelab/queuelablaw09.CodeParts", spec := "codeParts", unfollowed := true, recurses := true, loops := true, apart := false, narrowed := true }
def CodePartsUptoSaid : Prop := codePartsUptoRow.holds Try.pinned (OpenSpec.upto codePartsSpec)

/-- 'queuelablaw09.CodeHandlers', WHERE WHAT IT READS IS OF BULK AT MOST 1048576: true; the input reads as it did. -/
def codeHandlersUptoRow : OpenClaim := { program := "ytiifbdkedainnaa", sum := "20168d3d7fb074e5beee78dccc16b406fd9fa62321cf7cddbbd82e495e43dcc0", func := "queuelab/queuelablaw09.CodeHandlers", spec := "codeHandlers", unfollowed := true, recurses := true, loops := true, apart := false, narrowed := true }
def CodeHandlersUptoSaid : Prop := codeHandlersUptoRow.holds Try.pinned (OpenSpec.upto codeHandlersSpec)

/-- 'queuelablaw09.CodeDamage', WHERE WHAT IT READS IS OF BULK AT MOST 1048576: true; the input reads as it did. -/
def codeDamageUptoRow : OpenClaim := { program := "ytiifbdkedainnaa", sum := "20168d3d7fb074e5beee78dccc16b406fd9fa62321cf7cddbbd82e495e43dcc0", func := "queuelab/queuelablaw09.CodeDamage", spec := "codeDamage", unfollowed := true, recurses := true, apart := false, narrowed := true }
def CodeDamageUptoSaid : Prop := codeDamageUptoRow.holds Try.pinned (OpenSpec.upto codeDamageSpec)

end Rows
end Go.Proofs.Ytiifbdkedainnaa
