import Derived.Test.YtpfjlifneibhfaaGreatQMeaningChoice6
import Derived.ProofKit
import Derived.OpenShut
import Derived.JoinedCond
import Derived.WalkKit
set_option linter.unusedSectionVars false
set_option linter.unusedSimpArgs false
set_option linter.unusedVariables false
set_option maxHeartbeats 100000000
set_option maxRecDepth 100000
namespace Go.Proofs.YtpfjlifneibhfaaGreat.Y
open Go.Proofs.YtpfjlifneibhfaaGreat.AL Go.Proofs Go Go.ChangeShapes Go.WideShapes Go.RowKit Go.ChangeAt
open Go.Proofs.YtpfjlifneibhfaaGreat
theorem contractMeaningChoice (H : Type) (enc : TypeId × Value → H) (W : World) (base : Nat) (args : Array Value) (ds gs : List (DataW H)) (before : List MemPlace)
    (hval : ∀ (j : Nat) t v, Tryz.f6.params[j]? = some t → args[j]? = some v → Value.okWide Tryz.prog W .any base t v)
    (hW : DataW.Whole enc Tryz.prog Tryz.f6.params.toList Rows.meaningChoiceSpec.vars false W args.toList ds gs before) (hk : Rows.uptoSmall H (ds ++ gs) = true) :
    Calls Tryz.prog 6 args W fun e W' => ∃ v, e = .returned v ∧ Rows.meaningChoiceSpec.post enc Tryz.prog Tryz.f6 false true false false W args v W' := by
  have hW' := hW
  obtain ⟨p, q, hA0, hV, hbe, hfz, hnd⟩ := hW
  have hlt : ∀ x ∈ p, x.block < W.heap.size := fun x hx => hW'.lt x (by rw [hbe]; simp [hx])
  have hA : DataW.TrodAll enc Tryz.prog W 0 (fun _ => true) true Tryz.f6.params.toList args.toList ds p := hA0
  rw [Tryz.params6] at hA hval
  obtain ⟨v0, vs0, d0, ds0, p0, q0, hargs0, rfl, rfl, h0, r0⟩ := trodAll_cons hA
  obtain ⟨v1, vs1, d1, ds1, p1, q1, hargs1, rfl, rfl, h1, r1⟩ := trodAll_cons r0
  obtain ⟨v2, vs2, d2, ds2, p2, q2, hargs2, rfl, rfl, h2, r2⟩ := trodAll_cons r1
  obtain ⟨rfl, rfl, rfl⟩ := trodAll_nil r2
  obtain rfl : args = #[v0, v1, v2] := by
    cases args; simp_all
  have hb := bulk_bound hk
  simp only [List.cons_append, List.nil_append, bulk.lcons] at hb
  obtain ⟨a0, k0, m0, w0⟩ := Rd.arg rdP h0 (fun x hx => hlt x (by simp [hx]))
  (try dsimp only at k0 m0)
  have x0 : ARel W (fun _ => none) (Old W) [] (.ag (cP a0)) v0 := arg_struct Tryz.underlying26 (hval 0 _ _ rfl rfl) k0
  obtain ⟨a1, k1, m1, w1⟩ := Rd.arg rdI1 h1 (fun x hx => hlt x (by simp [hx]))
  (try dsimp only at k1 m1)
  have x1 : ARel W (fun _ => none) (Old W) [] (.rs 1 (rI a1)) v1 := arg_slice Tryz.underlying27 (hval 1 _ _ rfl rfl) k1
  obtain ⟨a2, k2, m2, w2⟩ := Rd.arg rdL h2 (fun x hx => hlt x (by simp [hx]))
  (try dsimp only at k2 m2)
  have x2 : ARel W (fun _ => none) (Old W) [] (agL a2) v2 := arg_struct Tryz.underlying30 (hval 2 _ _ rfl rfl) k2
  refine law_post (gtabW W) laidOut hW' rfl ?_ rfl Tryz.underlying4 rfl rfl rfl (ARelL.cons x0 (ARelL.cons x1 (ARelL.cons x2 (ARelL.nil)))) (MeaningChoice_run a0 a1 a2 (PF.of (by omega)) [])
  intro t ht
  rw [Tryz.params6] at ht
  simp only [List.toList_toArray, List.mem_cons, List.not_mem_nil, or_false] at ht
  rcases ht with rfl | rfl | rfl
  all_goals exact ⟨by kernel_rfl, of_decide_eq_true (by kernel_rfl)⟩
theorem liftedMeaningChoice (os : Os) (started : os.Started) (H : Type) (enc : TypeId × Value → H) (F : Stop.Interp) :
    ReturnsInHanded {} Tryz.checked os 6 .any ((Rows.OpenSpec.upto Rows.meaningChoiceSpec).pre6 enc Tryz.prog Tryz.f6 Rows.meaningChoiceUptoRow.domain false) (((Rows.OpenSpec.upto Rows.meaningChoiceSpec).at F).post enc Tryz.prog Tryz.f6 false true false false) := by
  refine returnsInHanded_of_cond (C := Tryz.checked) (s := Rows.OpenSpec.upto Rows.meaningChoiceSpec) (k := Rows.uptoSmall) rfl own started (by kernel_rfl) Tryz.func6
    (OpenSpec.witness (enc := enc) (C := Tryz.checked) (s := Rows.OpenSpec.upto Rows.meaningChoiceSpec) (k := Rows.uptoSmall) rfl false ⟨#[], #[.agg #[.string ⟨#[]⟩, .slice none 0 0, .slice none 0 0, .slice none 0 0, .slice none 0 0, .slice none 0 0, .slice none 0 0, .int .i64 0, .int .i64 0], .slice none 0 0, .agg #[.int .i64 0, .int .i64 0, .int .i64 0, .int .i64 0, .int .i64 0]], []⟩ 8 (by kernel_rfl) (by kernel_rfl) (by kernel_rfl)
      (x := ([.agg [.lit (.string []), .nil, .agg [.nil, .nil, .nil, .nil, .nil], .lit (.int .i64 0), .lit (.int .i64 0)], .nil, .agg [.lit (.int .i64 0), .agg [.lit (.int .i64 0), .lit (.int .i64 0), .lit (.int .i64 0), .lit (.int .i64 0)]]], [], [])) (by kernel_rfl) rfl (by kernel_rfl)) ?_
  intro W base args ds gs before hval hW _ hk _
  exact contractMeaningChoice H enc W base args ds gs before hval hW hk
theorem overMeaningChoice : Rows.meaningChoiceUptoRow.holds Tryz.pinned (Rows.OpenSpec.upto Rows.meaningChoiceSpec) :=
  OpenClaim.holds_of_cond 6 Tryz.f6 rfl rfl rfl rfl rfl rfl rfl ⟨rfl, rfl, rfl, rfl, rfl⟩ rfl rfl rfl rfl rfl (by kernel_rfl) Tryz.func6 (by kernel_rfl)
    (of_decide_eq_true (by kernel_rfl)) (by unfold Func.isWrapper; first | (rw [if_pos (by decide +kernel)]; kernel_rfl) | (rw [if_neg (by decide +kernel)]; exact ⟨rfl, rfl⟩))
    (fun os started H enc _ F => liftedMeaningChoice os started H enc F)
end Go.Proofs.YtpfjlifneibhfaaGreat.Y
namespace Go.Proofs.YtpfjlifneibhfaaGreat
theorem meaningChoice_holds : Rows.MeaningChoiceUptoSaid := Go.Proofs.YtpfjlifneibhfaaGreat.Y.overMeaningChoice
end Go.Proofs.YtpfjlifneibhfaaGreat
