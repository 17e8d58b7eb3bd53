/- Proves: CodeDamage, for all arguments that hold together at most 1048576 values and letters: the law returns true, and the arguments read as before. -/
import Derived.Test.YtiifbdkedainnaaM5
import Derived.ProofKit
import Derived.OpenShut
import Derived.JoinedCond
import Derived.WalkKit


set_option maxRecDepth 100000
set_option maxHeartbeats 4000000
set_option linter.unusedVariables false
set_option linter.unusedSimpArgs false
namespace Go.Proofs.Ytiifbdkedainnaa.Y
open Go.Proofs.Ytiifbdkedainnaa.AL Go.Proofs Go Go.ChangeShapes Go.WideShapes Go.RowKit Go.ChangeAt
open Go.Proofs.Ytiifbdkedainnaa
theorem contractCodeDamage (H : Type) (enc : TypeId × Value → H) (W : World) (base : Nat) (args : Array Value) (ds gs : List (DataW H)) (before : List MemPlace)
    (hval : ∀ (j : Nat) t v, Try.f9.params[j]? = some t → args[j]? = some v → Value.okWide Try.prog W .any base t v)
    (hW : DataW.Whole enc Try.prog Try.f9.params.toList Rows.codeDamageSpec.vars false W args.toList ds gs before) (hk : Rows.uptoSmall H (ds ++ gs) = true) :
    Calls Try.prog 9 args W fun e W' => ∃ v, e = .returned v ∧ Rows.codeDamageSpec.post enc Try.prog Try.f9 false true false false W args v W' := by
  have hW' := hW
  obtain ⟨p, q, hA0, hV, hbe, hfz, hnd⟩ := hW
  have hlt : ∀ x ∈ p, x.block < W.heap.size := fun x hx => hW'.lt x (by rw [hbe]; simp [hx])
  have hA : DataW.TrodAll enc Try.prog W 0 (fun _ => true) true Try.f9.params.toList args.toList ds p := hA0
  rw [Try.params9] at hA hval
  obtain ⟨v0, vs0, d0, ds0, p0, q0, hargs0, rfl, rfl, h0, r0⟩ := trodAll_cons hA
  obtain ⟨v1, vs1, d1, ds1, p1, q1, hargs1, rfl, rfl, h1, r1⟩ := trodAll_cons r0
  obtain ⟨v2, vs2, d2, ds2, p2, q2, hargs2, rfl, rfl, h2, r2⟩ := trodAll_cons r1
  obtain ⟨v3, vs3, d3, ds3, p3, q3, hargs3, rfl, rfl, h3, r3⟩ := trodAll_cons r2
  obtain ⟨v4, vs4, d4, ds4, p4, q4, hargs4, rfl, rfl, h4, r4⟩ := trodAll_cons r3
  obtain ⟨rfl, rfl, rfl⟩ := trodAll_nil r4
  obtain rfl : args = #[v0, v1, v2, v3, v4] := by
    cases args; simp_all
  have hb := bulk_bound hk
  simp only [List.cons_append, List.nil_append, bulk.lcons] at hb
  obtain ⟨a0, k0, m0, w0⟩ := Rd.arg rdC h0 (fun x hx => hlt x (by simp [hx]))
  (try dsimp only at k0 m0)
  have x0 : ARel W (fun _ => none) (Old W) [] (agC a0) v0 := arg_struct Try.underlying30 (hval 0 _ _ rfl rfl) k0
  obtain ⟨a1, k1, m1, w1⟩ := Rd.arg (fun n => Rd.int bulk (n := n) Try.underlying3) h1 (fun x hx => hlt x (by simp [hx]))
  (try dsimp only at k1 m1)
  have x1 : ARel W (fun _ => none) (Old W) [] (.i a1) v1 := arg_int Try.underlying3 (hval 1 _ _ rfl rfl) k1
  obtain ⟨a2, k2, m2, w2⟩ := Rd.arg (fun n => Rd.int bulk (n := n) Try.underlying5) h2 (fun x hx => hlt x (by simp [hx]))
  (try dsimp only at k2 m2)
  have x2 : ARel W (fun _ => none) (Old W) [] (.pv (.sc (.int .u8 a2))) v2 := arg_int Try.underlying5 (hval 2 _ _ rfl rfl) k2
  obtain ⟨a3, k3, m3, w3⟩ := Rd.arg (fun n => Rd.int bulk (n := n) Try.underlying50) h3 (fun x hx => hlt x (by simp [hx]))
  (try dsimp only at k3 m3)
  have x3 : ARel W (fun _ => none) (Old W) [] (.pv (.sc (.int .u16 a3))) v3 := arg_int Try.underlying50 (hval 3 _ _ rfl rfl) k3
  obtain ⟨a4, k4, m4, w4⟩ := Rd.arg (fun n => Rd.int bulk (n := n) Try.underlying5) h4 (fun x hx => hlt x (by simp [hx]))
  (try dsimp only at k4 m4)
  have x4 : ARel W (fun _ => none) (Old W) [] (.pv (.sc (.int .u8 a4))) v4 := arg_int Try.underlying5 (hval 4 _ _ rfl rfl) k4
  refine law_post (gtabW W) laidOut hW' rfl ?_ rfl Try.underlying4 rfl rfl rfl (ARelL.cons x0 (ARelL.cons x1 (ARelL.cons x2 (ARelL.cons x3 (ARelL.cons x4 (ARelL.nil)))))) (CodeDamage_run a0 a1 a2 a3 a4 (u8wf2 w2).1 (u8wf2 w2).2 (u16wf2 w3).1 (u16wf2 w3).2 (u8wf2 w4).1 (u8wf2 w4).2 [])
  intro t ht
  rw [Try.params9] at ht
  simp only [List.toList_toArray, List.mem_cons, List.not_mem_nil, or_false] at ht
  rcases ht with rfl | rfl | rfl | rfl | rfl
  all_goals exact ⟨by kernel_rfl, of_decide_eq_true (by kernel_rfl)⟩
theorem liftedCodeDamage (os : Os) (started : os.Started) (H : Type) (enc : TypeId × Value → H) (F : Stop.Interp) :
    ReturnsInHanded {} Try.checked os 9 .any ((Rows.OpenSpec.upto Rows.codeDamageSpec).pre6 enc Try.prog Try.f9 Rows.codeDamageUptoRow.domain false) (((Rows.OpenSpec.upto Rows.codeDamageSpec).at F).post enc Try.prog Try.f9 false true false false) := by
  refine returnsInHanded_of_cond (C := Try.checked) (s := Rows.OpenSpec.upto Rows.codeDamageSpec) (k := Rows.uptoSmall) rfl own started (by kernel_rfl) Try.func9
    (OpenSpec.witness (enc := enc) (C := Try.checked) (s := Rows.OpenSpec.upto Rows.codeDamageSpec) (k := Rows.uptoSmall) rfl false ⟨#[], #[.agg #[.slice none 0 0, .slice none 0 0, .slice none 0 0, .slice none 0 0, .slice none 0 0], .int .i64 0, .int .u8 0, .int .u16 0, .int .u8 0], []⟩ 8 (by kernel_rfl) (by kernel_rfl) (by kernel_rfl)
      (x := ([.agg [.agg [.nil, .nil, .nil, .nil, .nil]], .lit (.int .i64 0), .lit (.int .u8 0), .lit (.int .u16 0), .lit (.int .u8 0)], [], [])) (by kernel_rfl) rfl (by kernel_rfl)) ?_
  intro W base args ds gs before hval hW _ hk _
  exact contractCodeDamage H enc W base args ds gs before hval hW hk
theorem overCodeDamage : Rows.codeDamageUptoRow.holds Try.pinned (Rows.OpenSpec.upto Rows.codeDamageSpec) :=
  OpenClaim.holds_of_cond 9 Try.f9 rfl rfl rfl rfl rfl rfl rfl ⟨rfl, rfl, rfl, rfl, rfl⟩ rfl rfl rfl rfl rfl (by kernel_rfl) Try.func9 (by kernel_rfl)
    (of_decide_eq_true (by kernel_rfl)) (by unfold Func.isWrapper; first | (rw [if_pos (by decide +kernel)]; kernel_rfl) | (rw [if_neg (by decide +kernel)]; exact ⟨rfl, rfl⟩))
    (fun os started H enc _ F => liftedCodeDamage os started H enc F)
end Go.Proofs.Ytiifbdkedainnaa.Y
namespace Go.Proofs.Ytiifbdkedainnaa
theorem codeDamage_holds : Rows.CodeDamageUptoSaid := Go.Proofs.Ytiifbdkedainnaa.Y.overCodeDamage
end Go.Proofs.Ytiifbdkedainnaa
