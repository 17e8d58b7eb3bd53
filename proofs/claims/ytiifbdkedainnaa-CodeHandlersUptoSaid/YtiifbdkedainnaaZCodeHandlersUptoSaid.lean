/- Proves: CodeHandlers, for all arguments that hold together at most 1048576 values and letters: the law returns true, and the arguments read as before. -/
import Derived.Test.YtiifbdkedainnaaQCodeHandlers7
import Derived.ProofKit
import Derived.OpenShut
import Derived.JoinedCond
import Derived.WalkKit


set_option maxRecDepth 100000
set_option maxHeartbeats 4000000
set_option linter.unusedVariables false
set_option linter.unusedSimpArgs false
namespace Go.Proofs.Ytiifbdkedainnaa.Y
open Go.Proofs.Ytiifbdkedainnaa.AL Go.Proofs Go Go.ChangeShapes Go.WideShapes Go.RowKit Go.ChangeAt
open Go.Proofs.Ytiifbdkedainnaa
theorem contractCodeHandlers (H : Type) (enc : TypeId × Value → H) (W : World) (base : Nat) (args : Array Value) (ds gs : List (DataW H)) (before : List MemPlace)
    (hval : ∀ (j : Nat) t v, Try.f8.params[j]? = some t → args[j]? = some v → Value.okWide Try.prog W .any base t v)
    (hW : DataW.Whole enc Try.prog Try.f8.params.toList Rows.codeHandlersSpec.vars false W args.toList ds gs before) (hk : Rows.uptoSmall H (ds ++ gs) = true) :
    Calls Try.prog 8 args W fun e W' => ∃ v, e = .returned v ∧ Rows.codeHandlersSpec.post enc Try.prog Try.f8 false true false false W args v W' := by
  have hW' := hW
  obtain ⟨p, q, hA0, hV, hbe, hfz, hnd⟩ := hW
  have hlt : ∀ x ∈ p, x.block < W.heap.size := fun x hx => hW'.lt x (by rw [hbe]; simp [hx])
  have hA : DataW.TrodAll enc Try.prog W 0 (fun _ => true) true Try.f8.params.toList args.toList ds p := hA0
  rw [Try.params8] at hA hval
  obtain ⟨v0, vs0, d0, ds0, p0, q0, hargs0, rfl, rfl, h0, r0⟩ := trodAll_cons hA
  obtain ⟨v1, vs1, d1, ds1, p1, q1, hargs1, rfl, rfl, h1, r1⟩ := trodAll_cons r0
  obtain ⟨rfl, rfl, rfl⟩ := trodAll_nil r1
  obtain rfl : args = #[v0, v1] := by
    cases args; simp_all
  have hb := bulk_bound hk
  simp only [List.cons_append, List.nil_append, bulk.lcons] at hb
  obtain ⟨a0, k0, m0, w0⟩ := Rd.arg rdP h0 (fun x hx => hlt x (by simp [hx]))
  (try dsimp only at k0 m0)
  have x0 : ARel W (fun _ => none) (Old W) [] (.ag (cP a0)) v0 := arg_struct Try.underlying26 (hval 0 _ _ rfl rfl) k0
  obtain ⟨a1, k1, m1, w1⟩ := Rd.arg (fun n => Rd.int bulk (n := n) Try.underlying5) h1 (fun x hx => hlt x (by simp [hx]))
  (try dsimp only at k1 m1)
  have x1 : ARel W (fun _ => none) (Old W) [] (.pv (.sc (.int .u8 a1))) v1 := arg_int Try.underlying5 (hval 1 _ _ rfl rfl) k1
  refine law_post (gtabW W) laidOut hW' rfl ?_ rfl Try.underlying4 rfl rfl rfl (ARelL.cons x0 (ARelL.cons x1 (ARelL.nil))) (CodeHandlers_run a0 a1 (u8wf2 w1).1 (u8wf2 w1).2 (PFine.of (by omega)) [])
  intro t ht
  rw [Try.params8] at ht
  simp only [List.toList_toArray, List.mem_cons, List.not_mem_nil, or_false] at ht
  rcases ht with rfl | rfl
  all_goals exact ⟨by kernel_rfl, of_decide_eq_true (by kernel_rfl)⟩
theorem liftedCodeHandlers (os : Os) (started : os.Started) (H : Type) (enc : TypeId × Value → H) (F : Stop.Interp) :
    ReturnsInHanded {} Try.checked os 8 .any ((Rows.OpenSpec.upto Rows.codeHandlersSpec).pre6 enc Try.prog Try.f8 Rows.codeHandlersUptoRow.domain false) (((Rows.OpenSpec.upto Rows.codeHandlersSpec).at F).post enc Try.prog Try.f8 false true false false) := by
  refine returnsInHanded_of_cond (C := Try.checked) (s := Rows.OpenSpec.upto Rows.codeHandlersSpec) (k := Rows.uptoSmall) rfl own started (by kernel_rfl) Try.func8
    (OpenSpec.witness (enc := enc) (C := Try.checked) (s := Rows.OpenSpec.upto Rows.codeHandlersSpec) (k := Rows.uptoSmall) rfl false ⟨#[], #[.agg #[.string ⟨#[]⟩, .slice none 0 0, .slice none 0 0, .slice none 0 0, .slice none 0 0, .slice none 0 0, .slice none 0 0, .int .i64 0, .int .i64 0], .int .u8 0], []⟩ 8 (by kernel_rfl) (by kernel_rfl) (by kernel_rfl)
      (x := ([.agg [.lit (.string []), .nil, .agg [.nil, .nil, .nil, .nil, .nil], .lit (.int .i64 0), .lit (.int .i64 0)], .lit (.int .u8 0)], [], [])) (by kernel_rfl) rfl (by kernel_rfl)) ?_
  intro W base args ds gs before hval hW _ hk _
  exact contractCodeHandlers H enc W base args ds gs before hval hW hk
theorem overCodeHandlers : Rows.codeHandlersUptoRow.holds Try.pinned (Rows.OpenSpec.upto Rows.codeHandlersSpec) :=
  OpenClaim.holds_of_cond 8 Try.f8 rfl rfl rfl rfl rfl rfl rfl ⟨rfl, rfl, rfl, rfl, rfl⟩ rfl rfl rfl rfl rfl (by kernel_rfl) Try.func8 (by kernel_rfl)
    (of_decide_eq_true (by kernel_rfl)) (by unfold Func.isWrapper; first | (rw [if_pos (by decide +kernel)]; kernel_rfl) | (rw [if_neg (by decide +kernel)]; exact ⟨rfl, rfl⟩))
    (fun os started H enc _ F => liftedCodeHandlers os started H enc F)
end Go.Proofs.Ytiifbdkedainnaa.Y
namespace Go.Proofs.Ytiifbdkedainnaa
theorem codeHandlers_holds : Rows.CodeHandlersUptoSaid := Go.Proofs.Ytiifbdkedainnaa.Y.overCodeHandlers
end Go.Proofs.Ytiifbdkedainnaa
