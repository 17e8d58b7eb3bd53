import Derived.Test.YtpfjlifneibhfaaQMeaningLaws5
import Derived.ProofKit
import Derived.OpenShut
import Derived.JoinedCond
import Derived.WalkKit
set_option linter.unusedSectionVars false
set_option linter.unusedSimpArgs false
set_option linter.unusedVariables false
set_option maxHeartbeats 100000000
set_option maxRecDepth 100000
namespace Go.Proofs.Ytpfjlifneibhfaa.Y
open Go.Proofs.Ytpfjlifneibhfaa.AL Go.Proofs Go Go.ChangeShapes Go.WideShapes Go.RowKit Go.ChangeAt
open Go.Proofs.Ytpfjlifneibhfaa
theorem contractMeaningLaws (H : Type) (enc : TypeId × Value → H) (W : World) (base : Nat) (args : Array Value) (ds gs : List (DataW H)) (before : List MemPlace)
    (hval : ∀ (j : Nat) t v, Try.f4.params[j]? = some t → args[j]? = some v → Value.okWide Try.prog W .any base t v)
    (hW : DataW.Whole enc Try.prog Try.f4.params.toList Rows.meaningLawsSpec.vars false W args.toList ds gs before) (hk : Rows.uptoSmall H (ds ++ gs) = true) :
    Calls Try.prog 4 args W fun e W' => ∃ v, e = .returned v ∧ Rows.meaningLawsSpec.post enc Try.prog Try.f4 false true false false W args v W' := by
  have hW' := hW
  obtain ⟨p, q, hA0, hV, hbe, hfz, hnd⟩ := hW
  have hlt : ∀ x ∈ p, x.block < W.heap.size := fun x hx => hW'.lt x (by rw [hbe]; simp [hx])
  have hA : DataW.TrodAll enc Try.prog W 0 (fun _ => true) true Try.f4.params.toList args.toList ds p := hA0
  rw [Try.params4] at hA hval
  obtain ⟨v0, vs0, d0, ds0, p0, q0, hargs0, rfl, rfl, h0, r0⟩ := trodAll_cons hA
  obtain ⟨v1, vs1, d1, ds1, p1, q1, hargs1, rfl, rfl, h1, r1⟩ := trodAll_cons r0
  obtain ⟨rfl, rfl, rfl⟩ := trodAll_nil r1
  obtain rfl : args = #[v0, v1] := by
    cases args; simp_all
  have hb := bulk_bound hk
  simp only [List.cons_append, List.nil_append, bulk.lcons] at hb
  obtain ⟨a0, k0, m0, w0⟩ := Rd.arg (fun n => Rd.int bulk (n := n) Try.underlying3) h0 (fun x hx => hlt x (by simp [hx]))
  (try dsimp only at k0 m0)
  have x0 : ARel W (fun _ => none) (Old W) [] (.i a0) v0 := arg_int Try.underlying3 (hval 0 _ _ rfl rfl) k0
  obtain ⟨a1, k1, m1, w1⟩ := Rd.arg (fun n => Rd.int bulk (n := n) Try.underlying3) h1 (fun x hx => hlt x (by simp [hx]))
  (try dsimp only at k1 m1)
  have x1 : ARel W (fun _ => none) (Old W) [] (.i a1) v1 := arg_int Try.underlying3 (hval 1 _ _ rfl rfl) k1
  refine law_post (gtabW W) laidOut hW' rfl ?_ rfl Try.underlying4 rfl rfl rfl (ARelL.cons x0 (ARelL.cons x1 (ARelL.nil))) (MeaningLaws_run a0 a1 (i64wf w0) (i64wf w1) [])
  intro t ht
  rw [Try.params4] at ht
  simp only [List.toList_toArray, List.mem_cons, List.not_mem_nil, or_false] at ht
  rcases ht with rfl | rfl
  all_goals exact ⟨by kernel_rfl, of_decide_eq_true (by kernel_rfl)⟩
theorem liftedMeaningLaws (os : Os) (started : os.Started) (H : Type) (enc : TypeId × Value → H) (F : Stop.Interp) :
    ReturnsInHanded {} Try.checked os 4 .any ((Rows.OpenSpec.upto Rows.meaningLawsSpec).pre6 enc Try.prog Try.f4 Rows.meaningLawsUptoRow.domain false) (((Rows.OpenSpec.upto Rows.meaningLawsSpec).at F).post enc Try.prog Try.f4 false true false false) := by
  refine returnsInHanded_of_cond (C := Try.checked) (s := Rows.OpenSpec.upto Rows.meaningLawsSpec) (k := Rows.uptoSmall) rfl own started (by kernel_rfl) Try.func4
    (OpenSpec.witness (enc := enc) (C := Try.checked) (s := Rows.OpenSpec.upto Rows.meaningLawsSpec) (k := Rows.uptoSmall) rfl false ⟨#[], #[.int .i64 0, .int .i64 0], []⟩ 8 (by kernel_rfl) (by kernel_rfl) (by kernel_rfl)
      (x := ([.lit (.int .i64 0), .lit (.int .i64 0)], [], [])) (by kernel_rfl) rfl (by kernel_rfl)) ?_
  intro W base args ds gs before hval hW _ hk _
  exact contractMeaningLaws H enc W base args ds gs before hval hW hk
theorem overMeaningLaws : Rows.meaningLawsUptoRow.holds Try.pinned (Rows.OpenSpec.upto Rows.meaningLawsSpec) :=
  OpenClaim.holds_of_cond 4 Try.f4 rfl rfl rfl rfl rfl rfl rfl ⟨rfl, rfl, rfl, rfl, rfl⟩ rfl rfl rfl rfl rfl (by kernel_rfl) Try.func4 (by kernel_rfl)
    (of_decide_eq_true (by kernel_rfl)) (by unfold Func.isWrapper; first | (rw [if_pos (by decide +kernel)]; kernel_rfl) | (rw [if_neg (by decide +kernel)]; exact ⟨rfl, rfl⟩))
    (fun os started H enc _ F => liftedMeaningLaws os started H enc F)
end Go.Proofs.Ytpfjlifneibhfaa.Y
namespace Go.Proofs.Ytpfjlifneibhfaa
theorem meaningLaws_holds : Rows.MeaningLawsUptoSaid := Go.Proofs.Ytpfjlifneibhfaa.Y.overMeaningLaws
end Go.Proofs.Ytpfjlifneibhfaa
