/- Part 2 of the proofs of seat YtpfjlifneibhfaaGreat: what the texts behind it lean on (abstract memory, walks of functions, plain laws). -/
import Derived.Test.YtpfjlifneibhfaaGreatB1
import Derived.Test.YtpfjlifneibhfaaGreatProg
import Derived.KernelRfl
import Derived.Carry
import Derived.ChangeArms
import Derived.ChangeSame
import Derived.JoinedCond
import Derived.ProofKit
import Derived.OpenShut
set_option linter.unusedSectionVars false
set_option linter.unusedSimpArgs false
set_option linter.unusedVariables false
set_option maxHeartbeats 100000000
set_option maxRecDepth 100000
namespace Go.Proofs.YtpfjlifneibhfaaGreat.AL
variable [G : GTab]
/-- What a walk leaves, one after the other. -/
def Lf (a b : Prop) : Prop := a ∧ b
theorem Lf.mk {a b : Prop} (h : a) (k : b) : Lf a b := ⟨h, k⟩
inductive Fl : Prop → Prop
  | t : Fl True
  | any (q : Prop) : Fl q
structure Bx (q : Prop) : Prop where
  o : q
theorem ARun.lendA {P : Program} {f : FuncId} {args args' : List AV} {v : AV} {H : List AObj} (h : ARun P f args' [] (.ret v []))
    (ha : CvL (args.map fun c => c.low H 0 2) args' := by simp only [List.map_cons, List.map_nil, AV.low, AV.toPV, AV.toPVs, AV.toPVr, getO0, getOk, getS0, getSk, List.getElem?_cons_zero, List.getElem?_cons_succ, Nat.not_lt_zero, if_false, if_true, List.length_cons, List.length_nil, Nat.zero_le, and_self, and_true, true_and, List.drop_zero, List.take_succ_cons, List.take_zero, List.take_nil, Option.map_some, Nat.zero_add]; (repeat' (first | exact trivial | exact Cv.refl _ | exact Cv.nil (Nat.succ_pos _) | exact PCv.refl _ | exact PCv.nil (Nat.succ_pos _) | refine And.intro ?_ ?_ | refine Cv.agg ?_ | refine Cv.pv (PCv.rs ?_) | refine PCv.rs ?_)); (first | done | fail))
    (hv : v.fl3 = true := by rfl) : ARun P f args H (.ret v H) := ARun.lend 2 h ha hv
/-- The operations of a region. -/
def regOps (n : Nat) : Code → List Oper
  | .region i l _ => if i = n then l.toList else []
  | .seq a b => regOps n a ++ regOps n b
  | .cond _ a b => regOps n a ++ regOps n b
  | .block _ c => regOps n c
  | .loop c => regOps n c
  | .scope c => regOps n c
  | _ => []
/-- A region that draws its order, and its plan. -/
def Drawn (P : Program) (id : Nat) (l0 : List Oper) (effs bad : List Nat) (plan : List OpPlan) (ne : Nat) (sm : List Tmp) : Prop :=
  P.follows .mixedOrders = true ∧ (drawOk l0 (ancTab l0) effs (winsOf l0 effs) sm && bad.all (· < l0.length) && decide (planOf l0 effs bad = plan) && effs.length == ne) = true
section
variable {P : Program} {id : Nat} {l0 l : List Oper} {effs bad : List Nat} {plan : List OpPlan} {ne : Nat} {sm : List Tmp} {H0 H : List AObj} {Q : AEx → List AV → List AObj → Prop} {tm : List AV}
theorem Drawn.go (d : Drawn P id l0 effs bad plan ne []) (hl : l0 = l) (h : ∀ (Kn : List AV → List AObj → Prop) (Kp : AV → List AV → List AObj → Prop), (∀ tm H, Q .normal tm H → Kn tm H) → (∀ x tm H, Q (.pan x) tm H → Kp x tm H) →
      AWSeq P l (fun T H' Hs => Hs.getD 0 [] = H ∧ GoodP P l T (AEx.two Kn Kp) Hs plan l ∧ (bad = [] → Kn T (Hs.getD ne []))) plan l tm H [H]) : AWP P H0 (.region id l.toArray true) Q tm H := by
  subst hl; exact awp_drawn_k effs bad plan ne d.1 d.2 h
theorem Drawn.goS (d : Drawn P id l0 effs bad plan ne sm) (hl : l0 = l) (h : ∀ (Kn : List AV → List AObj → Prop) (Kp : AV → List AV → List AObj → Prop), (∀ tm H, Q .normal tm H → Kn tm H) → (∀ x tm H, Q (.pan x) tm H → Kp x tm H) →
      AWSeq P l (fun T H' Hs => Hs.getD 0 [] = H ∧ SameAt sm T tm ∧ GoodP P l T (AEx.two Kn Kp) Hs plan l ∧ (bad = [] → Kn T (Hs.getD ne []))) plan l tm H [H]) : AWP P H0 (.region id l.toArray true) Q tm H := by
  subst hl; exact awp_drawnS_k effs bad plan ne sm d.1 d.2 h
end
theorem wk {p q1 q2 q3 q4 q5 q6 q7 q8 q9 q10 q11 q12 q13 q14 q15 q16 q17 q18 q19 q20 q21 q22 q23 q24 q25 q26 q27 q28 q29 q30 q31 q32 : Prop} (k : Lf q1 (Lf q2 (Lf q3 (Lf q4 (Lf q5 (Lf q6 (Lf q7 (Lf q8 (Lf q9 (Lf q10 (Lf q11 (Lf q12 (Lf q13 (Lf q14 (Lf q15 (Lf q16 (Lf q17 (Lf q18 (Lf q19 (Lf q20 (Lf q21 (Lf q22 (Lf q23 (Lf q24 (Lf q25 (Lf q26 (Lf q27 (Lf q28 (Lf q29 (Lf q30 (Lf q31 q32))))))))))))))))))))))))))))))) (h : Bx q1 → Bx q2 → Bx q3 → Bx q4 → Bx q5 → Bx q6 → Bx q7 → Bx q8 → Bx q9 → Bx q10 → Bx q11 → Bx q12 → Bx q13 → Bx q14 → Bx q15 → Bx q16 → Bx q17 → Bx q18 → Bx q19 → Bx q20 → Bx q21 → Bx q22 → Bx q23 → Bx q24 → Bx q25 → Bx q26 → Bx q27 → Bx q28 → Bx q29 → Bx q30 → Bx q31 → Bx q32 → p ∧ Fl q1 ∧ Fl q2 ∧ Fl q3 ∧ Fl q4 ∧ Fl q5 ∧ Fl q6 ∧ Fl q7 ∧ Fl q8 ∧ Fl q9 ∧ Fl q10 ∧ Fl q11 ∧ Fl q12 ∧ Fl q13 ∧ Fl q14 ∧ Fl q15 ∧ Fl q16 ∧ Fl q17 ∧ Fl q18 ∧ Fl q19 ∧ Fl q20 ∧ Fl q21 ∧ Fl q22 ∧ Fl q23 ∧ Fl q24 ∧ Fl q25 ∧ Fl q26 ∧ Fl q27 ∧ Fl q28 ∧ Fl q29 ∧ Fl q30 ∧ Fl q31 ∧ Fl q32 := by
    intro l1 l2 l3 l4 l5 l6 l7 l8 l9 l10 l11 l12 l13 l14 l15 l16 l17 l18 l19 l20 l21 l22 l23 l24 l25 l26 l27 l28 l29 l30 l31 l32; refine ⟨?_, ?_, ?_, ?_, ?_, ?_, ?_, ?_, ?_, ?_, ?_, ?_, ?_, ?_, ?_, ?_, ?_, ?_, ?_, ?_, ?_, ?_, ?_, ?_, ?_, ?_, ?_, ?_, ?_, ?_, ?_, ?_, ?_⟩; have hP := True.intro; (first | have ww1 := @ww1 | have ww1 := True.intro); (first | have ww2 := @ww2 | have ww2 := True.intro); (first | have ww3 := @ww3 | have ww3 := True.intro); (first | have ww4 := @ww4 | have ww4 := True.intro); (first | have ww5 := @ww5 | have ww5 := True.intro); (first | have ww6 := @ww6 | have ww6 := True.intro); (first | have ww7 := @ww7 | have ww7 := True.intro); (first | have ww8 := @ww8 | have ww8 := True.intro); (first | have ww9 := @ww9 | have ww9 := True.intro); (first | have ww10 := @ww10 | have ww10 := True.intro); (first | have ww11 := @ww11 | have ww11 := True.intro); (first | have ww12 := @ww12 | have ww12 := True.intro); (first | have ww13 := @ww13 | have ww13 := True.intro); (first | have ww14 := @ww14 | have ww14 := True.intro); (first | have ww15 := @ww15 | have ww15 := True.intro); (first | have ww16 := @ww16 | have ww16 := True.intro); (repeat' (first | refine awp_seq ?_ | refine awp_block ?_ | refine awp_scope ?_ | ((first | refine awp_region_k fun Kn Kp hn hp => ?_ | (show AWP _ _ (Code.region _ _ true) _ _ _; first | refine Drawn.go rr1 (by rfl) fun Kn Kp hn hp => ?_ | refine Drawn.go rr2 (by rfl) fun Kn Kp hn hp => ?_ | refine Drawn.go rr3 (by rfl) fun Kn Kp hn hp => ?_ | refine Drawn.go rr4 (by rfl) fun Kn Kp hn hp => ?_ | refine Drawn.go rr5 (by rfl) fun Kn Kp hn hp => ?_ | refine Drawn.go rr6 (by rfl) fun Kn Kp hn hp => ?_ | refine Drawn.goS rr1 (by rfl) fun Kn Kp hn hp => ?_ | refine Drawn.goS rr2 (by rfl) fun Kn Kp hn hp => ?_ | refine Drawn.goS rr3 (by rfl) fun Kn Kp hn hp => ?_ | refine Drawn.goS rr4 (by rfl) fun Kn Kp hn hp => ?_ | refine Drawn.goS rr5 (by rfl) fun Kn Kp hn hp => ?_ | refine Drawn.goS rr6 (by rfl) fun Kn Kp hn hp => ?_) | refine oge_intro (by assumption) ?_ | (show AWE _ _ _ _ _ _ _ _ _; first | refine awe_intro (cc1 ..) ?_| refine awe_intro (cc2 ..) ?_| refine awe_intro (cc3 ..) ?_| refine awe_intro (cc4 ..) ?_| refine awe_intro (cc5 ..) ?_| refine awe_intro (cc6 ..) ?_| refine awe_intro (cc7 ..) ?_| refine awe_intro (cc8 ..) ?_| refine awe_intro (cc9 ..) ?_| refine awe_intro (cc10 ..) ?_| refine awe_intro (cc11 ..) ?_| refine awe_intro (cc12 ..) ?_| refine awe_intro (ARun.lendA dd1) ?_| refine awe_intro (ARun.lendA dd2) ?_| refine awe_intro (ARun.lendA dd3) ?_| refine awe_intro (ARun.lendA dd4) ?_| refine awe_intro (ARun.lendA dd5) ?_| refine awe_intro (ARun.lendA dd6) ?_| refine awe_intro (ARun.lendA dd7) ?_| refine awe_intro (ARun.lendA dd8) ?_) | (show AWSF _ _ _ _ _ _ _ _ _ _ _; first | refine awsf_intro (cc1 ..) (fun hrun => ?_)| refine awsf_intro (cc2 ..) (fun hrun => ?_)| refine awsf_intro (cc3 ..) (fun hrun => ?_)| refine awsf_intro (cc4 ..) (fun hrun => ?_)| refine awsf_intro (cc5 ..) (fun hrun => ?_)| refine awsf_intro (cc6 ..) (fun hrun => ?_)| refine awsf_intro (cc7 ..) (fun hrun => ?_)| refine awsf_intro (cc8 ..) (fun hrun => ?_)| refine awsf_intro (cc9 ..) (fun hrun => ?_)| refine awsf_intro (cc10 ..) (fun hrun => ?_)| refine awsf_intro (cc11 ..) (fun hrun => ?_)| refine awsf_intro (cc12 ..) (fun hrun => ?_)| refine awsf_intro (ARun.lendA dd1) (fun hrun => ?_)| refine awsf_intro (ARun.lendA dd2) (fun hrun => ?_)| refine awsf_intro (ARun.lendA dd3) (fun hrun => ?_)| refine awsf_intro (ARun.lendA dd4) (fun hrun => ?_)| refine awsf_intro (ARun.lendA dd5) (fun hrun => ?_)| refine awsf_intro (ARun.lendA dd6) (fun hrun => ?_)| refine awsf_intro (ARun.lendA dd7) (fun hrun => ?_)| refine awsf_intro (ARun.lendA dd8) (fun hrun => ?_)) | (show OGE _ _ _ _ _ _ _; first | refine oge_intro (cc1 ..) ?_| refine oge_intro (cc2 ..) ?_| refine oge_intro (cc3 ..) ?_| refine oge_intro (cc4 ..) ?_| refine oge_intro (cc5 ..) ?_| refine oge_intro (cc6 ..) ?_| refine oge_intro (cc7 ..) ?_| refine oge_intro (cc8 ..) ?_| refine oge_intro (cc9 ..) ?_| refine oge_intro (cc10 ..) ?_| refine oge_intro (cc11 ..) ?_| refine oge_intro (cc12 ..) ?_| refine oge_intro (ARun.lendA dd1) ?_| refine oge_intro (ARun.lendA dd2) ?_| refine oge_intro (ARun.lendA dd3) ?_| refine oge_intro (ARun.lendA dd4) ?_| refine oge_intro (ARun.lendA dd5) ?_| refine oge_intro (ARun.lendA dd6) ?_| refine oge_intro (ARun.lendA dd7) ?_| refine oge_intro (ARun.lendA dd8) ?_) | (show AWSE _ _ _ _ _ _ _ _ _ _ _; first | refine awse_intro (cc1 ..) (fun hrun => ?_)| refine awse_intro (cc2 ..) (fun hrun => ?_)| refine awse_intro (cc3 ..) (fun hrun => ?_)| refine awse_intro (cc4 ..) (fun hrun => ?_)| refine awse_intro (cc5 ..) (fun hrun => ?_)| refine awse_intro (cc6 ..) (fun hrun => ?_)| refine awse_intro (cc7 ..) (fun hrun => ?_)| refine awse_intro (cc8 ..) (fun hrun => ?_)| refine awse_intro (cc9 ..) (fun hrun => ?_)| refine awse_intro (cc10 ..) (fun hrun => ?_)| refine awse_intro (cc11 ..) (fun hrun => ?_)| refine awse_intro (cc12 ..) (fun hrun => ?_)| refine awse_intro (ARun.lendA dd1) (fun hrun => ?_)| refine awse_intro (ARun.lendA dd2) (fun hrun => ?_)| refine awse_intro (ARun.lendA dd3) (fun hrun => ?_)| refine awse_intro (ARun.lendA dd4) (fun hrun => ?_)| refine awse_intro (ARun.lendA dd5) (fun hrun => ?_)| refine awse_intro (ARun.lendA dd6) (fun hrun => ?_)| refine awse_intro (ARun.lendA dd7) (fun hrun => ?_)| refine awse_intro (ARun.lendA dd8) (fun hrun => ?_)) | (show PGE _ _ _ _ _; first | refine pge_intro (cc1 ..) (fun tm' => ?_)| refine pge_intro (cc2 ..) (fun tm' => ?_)| refine pge_intro (cc3 ..) (fun tm' => ?_)| refine pge_intro (cc4 ..) (fun tm' => ?_)| refine pge_intro (cc5 ..) (fun tm' => ?_)| refine pge_intro (cc6 ..) (fun tm' => ?_)| refine pge_intro (cc7 ..) (fun tm' => ?_)| refine pge_intro (cc8 ..) (fun tm' => ?_)| refine pge_intro (cc9 ..) (fun tm' => ?_)| refine pge_intro (cc10 ..) (fun tm' => ?_)| refine pge_intro (cc11 ..) (fun tm' => ?_)| refine pge_intro (cc12 ..) (fun tm' => ?_))) <;> (simp only [go_sem, Nat.reduceAdd, Nat.reduceSub, Nat.reduceMul, Nat.reduceLeDiff, Nat.reduceLT, Nat.reduceEqDiff, Int.reduceToNat, Int.reduceAdd, Int.reduceMul, Int.reduceSub, Int.reduceLT, Int.reduceLE, Int.reduceEq, Int.reduceNeg, Int.reduceBEq, Int.reduceBNe, ↓reduceIte, reduceCtorEq, List.set_set, Nat.mul_one, bne_self_eq_false, List.length_replicate, Int.le_refl, ww1, ww2, ww3, ww4, ww5, ww6, ww7, ww8, ww9, ww10, ww11, ww12, ww13, ww14, ww15, ww16] <;> try simp (disch := omega) only [wrap_of])) | (refine hn _ _ ?_; clear hn hp Kn Kp) | (refine hp _ _ _ ?_; clear hn hp Kn Kp) | (refine awp_cond rfl (fun hb => ?_) (fun hb => ?_) <;> (try simp only [decide_eq_true_eq, decide_eq_false_iff_not, Bool.not_eq_true', Bool.not_eq_false', Bool.true_eq_false, Bool.false_eq_true, beq_iff_eq, bne_iff_ne, bne_eq_false_iff_eq, beq_eq_false_iff_ne, gt_iff_lt, ge_iff_le, Int.reduceEq, Int.reduceNe, Int.reduceLT, Int.reduceLE, ne_eq, not_true_eq_false, not_false_eq_true] at hb) <;> replace hP := And.intro hb hP) | ((first | refine awg_split (fun hb => ?_) (fun hb => ?_) | refine awsg_split (fun hb => ?_) (fun hb => ?_)) <;> have hb0 := hb <;> (try simp only [decide_eq_true_eq, decide_eq_false_iff_not, Bool.not_eq_true', Bool.not_eq_false', Bool.true_eq_false, Bool.false_eq_true, beq_iff_eq, bne_iff_ne, bne_eq_false_iff_eq, beq_eq_false_iff_ne, gt_iff_lt, ge_iff_le, Int.reduceEq, Int.reduceNe, Int.reduceLT, Int.reduceLE, ne_eq, not_true_eq_false, not_false_eq_true] at hb0) <;> (try simp only [beq_true, beq_false, Bool.not_eq_true', Bool.not_eq_false'] at hb) <;> (simp only [go_sem, Nat.reduceAdd, Nat.reduceSub, Nat.reduceMul, Nat.reduceLeDiff, Nat.reduceLT, Nat.reduceEqDiff, Int.reduceToNat, Int.reduceAdd, Int.reduceMul, Int.reduceSub, Int.reduceLT, Int.reduceLE, Int.reduceEq, Int.reduceNeg, Int.reduceBEq, Int.reduceBNe, ↓reduceIte, reduceCtorEq, List.set_set, Nat.mul_one, bne_self_eq_false, List.length_replicate, Int.le_refl, ww1, ww2, ww3, ww4, ww5, ww6, ww7, ww8, ww9, ww10, ww11, ww12, ww13, ww14, ww15, ww16, hb, hb0] <;> try simp (disch := omega) only [wrap_of]) <;> replace hP := And.intro hb0 hP) | (refine And.intro ?_ ?_) | (show SameAt _ _ _; repeat' (first | exact True.intro | exact rfl | refine And.intro ?_ ?_)) | refine awp_skip ?_ | refine awp_ret ?_ | refine awp_exit ?_ | refine awp_label ?_ | refine awloop_step ?_ | fail)); all_goals (first | (revert hP; first | exact l1.o | exact l2.o | exact l3.o | exact l4.o | exact l5.o | exact l6.o | exact l7.o | exact l8.o | exact l9.o | exact l10.o | exact l11.o | exact l12.o | exact l13.o | exact l14.o | exact l15.o | exact l16.o | exact l17.o | exact l18.o | exact l19.o | exact l20.o | exact l21.o | exact l22.o | exact l23.o | exact l24.o | exact l25.o | exact l26.o | exact l27.o | exact l28.o | exact l29.o | exact l30.o | exact l31.o | exact l32.o) | exact Fl.t | exact Fl.any _)) : p := (h ⟨k.1⟩ ⟨(k.2).1⟩ ⟨(k.2.2).1⟩ ⟨(k.2.2.2).1⟩ ⟨(k.2.2.2.2).1⟩ ⟨(k.2.2.2.2.2).1⟩ ⟨(k.2.2.2.2.2.2).1⟩ ⟨(k.2.2.2.2.2.2.2).1⟩ ⟨(k.2.2.2.2.2.2.2.2).1⟩ ⟨(k.2.2.2.2.2.2.2.2.2).1⟩ ⟨(k.2.2.2.2.2.2.2.2.2.2).1⟩ ⟨(k.2.2.2.2.2.2.2.2.2.2.2).1⟩ ⟨(k.2.2.2.2.2.2.2.2.2.2.2.2).1⟩ ⟨(k.2.2.2.2.2.2.2.2.2.2.2.2.2).1⟩ ⟨(k.2.2.2.2.2.2.2.2.2.2.2.2.2.2).1⟩ ⟨(k.2.2.2.2.2.2.2.2.2.2.2.2.2.2.2).1⟩ ⟨(k.2.2.2.2.2.2.2.2.2.2.2.2.2.2.2.2).1⟩ ⟨(k.2.2.2.2.2.2.2.2.2.2.2.2.2.2.2.2.2).1⟩ ⟨(k.2.2.2.2.2.2.2.2.2.2.2.2.2.2.2.2.2.2).1⟩ ⟨(k.2.2.2.2.2.2.2.2.2.2.2.2.2.2.2.2.2.2.2).1⟩ ⟨(k.2.2.2.2.2.2.2.2.2.2.2.2.2.2.2.2.2.2.2.2).1⟩ ⟨(k.2.2.2.2.2.2.2.2.2.2.2.2.2.2.2.2.2.2.2.2.2).1⟩ ⟨(k.2.2.2.2.2.2.2.2.2.2.2.2.2.2.2.2.2.2.2.2.2.2).1⟩ ⟨(k.2.2.2.2.2.2.2.2.2.2.2.2.2.2.2.2.2.2.2.2.2.2.2).1⟩ ⟨(k.2.2.2.2.2.2.2.2.2.2.2.2.2.2.2.2.2.2.2.2.2.2.2.2).1⟩ ⟨(k.2.2.2.2.2.2.2.2.2.2.2.2.2.2.2.2.2.2.2.2.2.2.2.2.2).1⟩ ⟨(k.2.2.2.2.2.2.2.2.2.2.2.2.2.2.2.2.2.2.2.2.2.2.2.2.2.2).1⟩ ⟨(k.2.2.2.2.2.2.2.2.2.2.2.2.2.2.2.2.2.2.2.2.2.2.2.2.2.2.2).1⟩ ⟨(k.2.2.2.2.2.2.2.2.2.2.2.2.2.2.2.2.2.2.2.2.2.2.2.2.2.2.2.2).1⟩ ⟨(k.2.2.2.2.2.2.2.2.2.2.2.2.2.2.2.2.2.2.2.2.2.2.2.2.2.2.2.2.2).1⟩ ⟨(k.2.2.2.2.2.2.2.2.2.2.2.2.2.2.2.2.2.2.2.2.2.2.2.2.2.2.2.2.2.2).1⟩ ⟨k.2.2.2.2.2.2.2.2.2.2.2.2.2.2.2.2.2.2.2.2.2.2.2.2.2.2.2.2.2.2.2⟩).1
theorem wkO {p q1 q2 q3 q4 q5 q6 q7 q8 q9 q10 q11 q12 q13 q14 q15 q16 q17 q18 q19 q20 q21 q22 q23 q24 q25 q26 q27 q28 q29 q30 q31 q32 : Prop} (k : Lf q1 (Lf q2 (Lf q3 (Lf q4 (Lf q5 (Lf q6 (Lf q7 (Lf q8 (Lf q9 (Lf q10 (Lf q11 (Lf q12 (Lf q13 (Lf q14 (Lf q15 (Lf q16 (Lf q17 (Lf q18 (Lf q19 (Lf q20 (Lf q21 (Lf q22 (Lf q23 (Lf q24 (Lf q25 (Lf q26 (Lf q27 (Lf q28 (Lf q29 (Lf q30 (Lf q31 q32))))))))))))))))))))))))))))))) (h : Bx q1 → Bx q2 → Bx q3 → Bx q4 → Bx q5 → Bx q6 → Bx q7 → Bx q8 → Bx q9 → Bx q10 → Bx q11 → Bx q12 → Bx q13 → Bx q14 → Bx q15 → Bx q16 → Bx q17 → Bx q18 → Bx q19 → Bx q20 → Bx q21 → Bx q22 → Bx q23 → Bx q24 → Bx q25 → Bx q26 → Bx q27 → Bx q28 → Bx q29 → Bx q30 → Bx q31 → Bx q32 → p ∧ Fl q1 ∧ Fl q2 ∧ Fl q3 ∧ Fl q4 ∧ Fl q5 ∧ Fl q6 ∧ Fl q7 ∧ Fl q8 ∧ Fl q9 ∧ Fl q10 ∧ Fl q11 ∧ Fl q12 ∧ Fl q13 ∧ Fl q14 ∧ Fl q15 ∧ Fl q16 ∧ Fl q17 ∧ Fl q18 ∧ Fl q19 ∧ Fl q20 ∧ Fl q21 ∧ Fl q22 ∧ Fl q23 ∧ Fl q24 ∧ Fl q25 ∧ Fl q26 ∧ Fl q27 ∧ Fl q28 ∧ Fl q29 ∧ Fl q30 ∧ Fl q31 ∧ Fl q32 := by
    intro l1 l2 l3 l4 l5 l6 l7 l8 l9 l10 l11 l12 l13 l14 l15 l16 l17 l18 l19 l20 l21 l22 l23 l24 l25 l26 l27 l28 l29 l30 l31 l32; refine ⟨?_, ?_, ?_, ?_, ?_, ?_, ?_, ?_, ?_, ?_, ?_, ?_, ?_, ?_, ?_, ?_, ?_, ?_, ?_, ?_, ?_, ?_, ?_, ?_, ?_, ?_, ?_, ?_, ?_, ?_, ?_, ?_, ?_⟩; have hP := True.intro; (first | have ww1 := @ww1 | have ww1 := True.intro); (first | have ww2 := @ww2 | have ww2 := True.intro); (first | have ww3 := @ww3 | have ww3 := True.intro); (first | have ww4 := @ww4 | have ww4 := True.intro); (first | have ww5 := @ww5 | have ww5 := True.intro); (first | have ww6 := @ww6 | have ww6 := True.intro); (first | have ww7 := @ww7 | have ww7 := True.intro); (first | have ww8 := @ww8 | have ww8 := True.intro); (first | have ww9 := @ww9 | have ww9 := True.intro); (first | have ww10 := @ww10 | have ww10 := True.intro); (first | have ww11 := @ww11 | have ww11 := True.intro); (first | have ww12 := @ww12 | have ww12 := True.intro); (first | have ww13 := @ww13 | have ww13 := True.intro); (first | have ww14 := @ww14 | have ww14 := True.intro); (first | have ww15 := @ww15 | have ww15 := True.intro); (first | have ww16 := @ww16 | have ww16 := True.intro); (repeat' (first | refine awp_seq ?_ | refine awp_block ?_ | refine awp_scope ?_ | ((first | refine awp_region_k fun Kn Kp hn hp => ?_ | (show AWP _ _ (Code.region _ _ true) _ _ _; first | refine Drawn.go rr1 (by rfl) fun Kn Kp hn hp => ?_ | refine Drawn.go rr2 (by rfl) fun Kn Kp hn hp => ?_ | refine Drawn.go rr3 (by rfl) fun Kn Kp hn hp => ?_ | refine Drawn.go rr4 (by rfl) fun Kn Kp hn hp => ?_ | refine Drawn.go rr5 (by rfl) fun Kn Kp hn hp => ?_ | refine Drawn.go rr6 (by rfl) fun Kn Kp hn hp => ?_ | refine Drawn.goS rr1 (by rfl) fun Kn Kp hn hp => ?_ | refine Drawn.goS rr2 (by rfl) fun Kn Kp hn hp => ?_ | refine Drawn.goS rr3 (by rfl) fun Kn Kp hn hp => ?_ | refine Drawn.goS rr4 (by rfl) fun Kn Kp hn hp => ?_ | refine Drawn.goS rr5 (by rfl) fun Kn Kp hn hp => ?_ | refine Drawn.goS rr6 (by rfl) fun Kn Kp hn hp => ?_) | refine oge_intro (by assumption) ?_ | (show AWE _ _ _ _ _ _ _ _ _; first | refine awe_intro (cc1 ..) ?_| refine awe_intro (cc2 ..) ?_| refine awe_intro (cc3 ..) ?_| refine awe_intro (cc4 ..) ?_| refine awe_intro (cc5 ..) ?_| refine awe_intro (cc6 ..) ?_| refine awe_intro (cc7 ..) ?_| refine awe_intro (cc8 ..) ?_| refine awe_intro (cc9 ..) ?_| refine awe_intro (cc10 ..) ?_| refine awe_intro (cc11 ..) ?_| refine awe_intro (cc12 ..) ?_| refine awe_intro (ARun.lendA dd1) ?_| refine awe_intro (ARun.lendA dd2) ?_| refine awe_intro (ARun.lendA dd3) ?_| refine awe_intro (ARun.lendA dd4) ?_| refine awe_intro (ARun.lendA dd5) ?_| refine awe_intro (ARun.lendA dd6) ?_| refine awe_intro (ARun.lendA dd7) ?_| refine awe_intro (ARun.lendA dd8) ?_) | (show AWSF _ _ _ _ _ _ _ _ _ _ _; first | refine awsf_intro (cc1 ..) (fun hrun => ?_)| refine awsf_intro (cc2 ..) (fun hrun => ?_)| refine awsf_intro (cc3 ..) (fun hrun => ?_)| refine awsf_intro (cc4 ..) (fun hrun => ?_)| refine awsf_intro (cc5 ..) (fun hrun => ?_)| refine awsf_intro (cc6 ..) (fun hrun => ?_)| refine awsf_intro (cc7 ..) (fun hrun => ?_)| refine awsf_intro (cc8 ..) (fun hrun => ?_)| refine awsf_intro (cc9 ..) (fun hrun => ?_)| refine awsf_intro (cc10 ..) (fun hrun => ?_)| refine awsf_intro (cc11 ..) (fun hrun => ?_)| refine awsf_intro (cc12 ..) (fun hrun => ?_)| refine awsf_intro (ARun.lendA dd1) (fun hrun => ?_)| refine awsf_intro (ARun.lendA dd2) (fun hrun => ?_)| refine awsf_intro (ARun.lendA dd3) (fun hrun => ?_)| refine awsf_intro (ARun.lendA dd4) (fun hrun => ?_)| refine awsf_intro (ARun.lendA dd5) (fun hrun => ?_)| refine awsf_intro (ARun.lendA dd6) (fun hrun => ?_)| refine awsf_intro (ARun.lendA dd7) (fun hrun => ?_)| refine awsf_intro (ARun.lendA dd8) (fun hrun => ?_)) | (show OGE _ _ _ _ _ _ _; first | refine oge_intro (cc1 ..) ?_| refine oge_intro (cc2 ..) ?_| refine oge_intro (cc3 ..) ?_| refine oge_intro (cc4 ..) ?_| refine oge_intro (cc5 ..) ?_| refine oge_intro (cc6 ..) ?_| refine oge_intro (cc7 ..) ?_| refine oge_intro (cc8 ..) ?_| refine oge_intro (cc9 ..) ?_| refine oge_intro (cc10 ..) ?_| refine oge_intro (cc11 ..) ?_| refine oge_intro (cc12 ..) ?_| refine oge_intro (ARun.lendA dd1) ?_| refine oge_intro (ARun.lendA dd2) ?_| refine oge_intro (ARun.lendA dd3) ?_| refine oge_intro (ARun.lendA dd4) ?_| refine oge_intro (ARun.lendA dd5) ?_| refine oge_intro (ARun.lendA dd6) ?_| refine oge_intro (ARun.lendA dd7) ?_| refine oge_intro (ARun.lendA dd8) ?_) | (show AWSE _ _ _ _ _ _ _ _ _ _ _; first | refine awse_intro (cc1 ..) (fun hrun => ?_)| refine awse_intro (cc2 ..) (fun hrun => ?_)| refine awse_intro (cc3 ..) (fun hrun => ?_)| refine awse_intro (cc4 ..) (fun hrun => ?_)| refine awse_intro (cc5 ..) (fun hrun => ?_)| refine awse_intro (cc6 ..) (fun hrun => ?_)| refine awse_intro (cc7 ..) (fun hrun => ?_)| refine awse_intro (cc8 ..) (fun hrun => ?_)| refine awse_intro (cc9 ..) (fun hrun => ?_)| refine awse_intro (cc10 ..) (fun hrun => ?_)| refine awse_intro (cc11 ..) (fun hrun => ?_)| refine awse_intro (cc12 ..) (fun hrun => ?_)| refine awse_intro (ARun.lendA dd1) (fun hrun => ?_)| refine awse_intro (ARun.lendA dd2) (fun hrun => ?_)| refine awse_intro (ARun.lendA dd3) (fun hrun => ?_)| refine awse_intro (ARun.lendA dd4) (fun hrun => ?_)| refine awse_intro (ARun.lendA dd5) (fun hrun => ?_)| refine awse_intro (ARun.lendA dd6) (fun hrun => ?_)| refine awse_intro (ARun.lendA dd7) (fun hrun => ?_)| refine awse_intro (ARun.lendA dd8) (fun hrun => ?_)) | (show PGE _ _ _ _ _; first | refine pge_intro (cc1 ..) (fun tm' => ?_)| refine pge_intro (cc2 ..) (fun tm' => ?_)| refine pge_intro (cc3 ..) (fun tm' => ?_)| refine pge_intro (cc4 ..) (fun tm' => ?_)| refine pge_intro (cc5 ..) (fun tm' => ?_)| refine pge_intro (cc6 ..) (fun tm' => ?_)| refine pge_intro (cc7 ..) (fun tm' => ?_)| refine pge_intro (cc8 ..) (fun tm' => ?_)| refine pge_intro (cc9 ..) (fun tm' => ?_)| refine pge_intro (cc10 ..) (fun tm' => ?_)| refine pge_intro (cc11 ..) (fun tm' => ?_)| refine pge_intro (cc12 ..) (fun tm' => ?_))) <;> (simp only [go_sem, Nat.reduceAdd, Nat.reduceSub, Nat.reduceMul, Nat.reduceLeDiff, Nat.reduceLT, Nat.reduceEqDiff, Int.reduceToNat, Int.reduceAdd, Int.reduceMul, Int.reduceSub, Int.reduceLT, Int.reduceLE, Int.reduceEq, Int.reduceNeg, Int.reduceBEq, Int.reduceBNe, ↓reduceIte, reduceCtorEq, List.set_set, Nat.mul_one, bne_self_eq_false, List.length_replicate, Int.le_refl, ww1, ww2, ww3, ww4, ww5, ww6, ww7, ww8, ww9, ww10, ww11, ww12, ww13, ww14, ww15, ww16] <;> try simp (disch := omega) only [wrap_of])) | (refine hn _ _ ?_; clear hn hp Kn Kp) | (refine hp _ _ _ ?_; clear hn hp Kn Kp) | (simp (disch := omega) only [getSkip16, setSkip16, getAt1, setAt1, getAt2, setAt2, getAt3, setAt3, getAt4, setAt4, getAt5, setAt5, getAt6, setAt6, getAt7, setAt7, getAt8, setAt8, getAt9, setAt9, getAt10, setAt10, getAt11, setAt11, getAt12, setAt12, getAt13, setAt13, getAt14, setAt14, getAt15, setAt15, go_sem, Nat.reduceAdd, Nat.reduceSub, Nat.reduceMul, Nat.reduceLeDiff, Nat.reduceLT, Nat.reduceEqDiff, Int.reduceToNat, Int.reduceAdd, Int.reduceMul, Int.reduceSub, Int.reduceLT, Int.reduceLE, Int.reduceEq, Int.reduceNeg, Int.reduceBEq, Int.reduceBNe, ↓reduceIte, reduceCtorEq, List.set_set, Nat.mul_one, bne_self_eq_false, List.length_replicate, Int.le_refl, ww1, ww2, ww3, ww4, ww5, ww6, ww7, ww8, ww9, ww10, ww11, ww12, ww13, ww14, ww15, ww16, if_pos, if_neg, decide_pos', decide_neg', beq_pos', beq_neg', bne_pos', bne_neg', getE, wrap_of]) | (refine awp_cond_t rfl (by first | with_reducible rfl | (simp only [Bool.and_eq_true, Bool.or_eq_true, Bool.and_eq_false_iff, Bool.or_eq_false_iff, decide_eq_true_eq, decide_eq_false_iff_not, beq_iff_eq, bne_iff_ne, bne_eq_false_iff_eq, beq_eq_false_iff_ne, ne_eq, Bool.not_eq_true', Bool.not_eq_false', not_true_eq_false, not_false_eq_true]; omega)) ?_) | (refine awp_cond_f rfl (by first | with_reducible rfl | (simp only [Bool.and_eq_true, Bool.or_eq_true, Bool.and_eq_false_iff, Bool.or_eq_false_iff, decide_eq_true_eq, decide_eq_false_iff_not, beq_iff_eq, bne_iff_ne, bne_eq_false_iff_eq, beq_eq_false_iff_ne, ne_eq, Bool.not_eq_true', Bool.not_eq_false', not_true_eq_false, not_false_eq_true]; omega)) ?_) | (refine awp_cond rfl (fun hb => ?_) (fun hb => ?_) <;> (try simp only [decide_eq_true_eq, decide_eq_false_iff_not, Bool.not_eq_true', Bool.not_eq_false', Bool.true_eq_false, Bool.false_eq_true, beq_iff_eq, bne_iff_ne, Bool.or_eq_true, Bool.and_eq_true, Bool.or_eq_false_iff, Bool.and_eq_false_iff, bne_eq_false_iff_eq, beq_eq_false_iff_ne, gt_iff_lt, ge_iff_le, Int.reduceEq, Int.reduceNe, Int.reduceLT, Int.reduceLE, ne_eq, not_true_eq_false, not_false_eq_true] at hb) <;> replace hP := And.intro hb hP) | ((first | refine awg_split (fun hb => ?_) (fun hb => ?_) | refine awsg_split (fun hb => ?_) (fun hb => ?_)) <;> have hb0 := hb <;> (try simp only [decide_eq_true_eq, decide_eq_false_iff_not, Bool.not_eq_true', Bool.not_eq_false', Bool.true_eq_false, Bool.false_eq_true, beq_iff_eq, bne_iff_ne, Bool.or_eq_true, Bool.and_eq_true, Bool.or_eq_false_iff, Bool.and_eq_false_iff, bne_eq_false_iff_eq, beq_eq_false_iff_ne, gt_iff_lt, ge_iff_le, Int.reduceEq, Int.reduceNe, Int.reduceLT, Int.reduceLE, ne_eq, not_true_eq_false, not_false_eq_true] at hb0) <;> (try simp only [beq_true, beq_false, Bool.not_eq_true', Bool.not_eq_false'] at hb) <;> (simp only [go_sem, Nat.reduceAdd, Nat.reduceSub, Nat.reduceMul, Nat.reduceLeDiff, Nat.reduceLT, Nat.reduceEqDiff, Int.reduceToNat, Int.reduceAdd, Int.reduceMul, Int.reduceSub, Int.reduceLT, Int.reduceLE, Int.reduceEq, Int.reduceNeg, Int.reduceBEq, Int.reduceBNe, ↓reduceIte, reduceCtorEq, List.set_set, Nat.mul_one, bne_self_eq_false, List.length_replicate, Int.le_refl, ww1, ww2, ww3, ww4, ww5, ww6, ww7, ww8, ww9, ww10, ww11, ww12, ww13, ww14, ww15, ww16, hb, hb0] <;> try simp (disch := omega) only [wrap_of]) <;> replace hP := And.intro hb0 hP) | (refine And.intro ?_ ?_) | (show SameAt _ _ _; repeat' (first | exact True.intro | exact rfl | refine And.intro ?_ ?_)) | refine awp_skip ?_ | refine awp_ret ?_ | refine awp_exit ?_ | refine awp_label ?_ | refine awloop_step ?_ | fail)); all_goals (first | (revert hP; first | exact l1.o | exact l2.o | exact l3.o | exact l4.o | exact l5.o | exact l6.o | exact l7.o | exact l8.o | exact l9.o | exact l10.o | exact l11.o | exact l12.o | exact l13.o | exact l14.o | exact l15.o | exact l16.o | exact l17.o | exact l18.o | exact l19.o | exact l20.o | exact l21.o | exact l22.o | exact l23.o | exact l24.o | exact l25.o | exact l26.o | exact l27.o | exact l28.o | exact l29.o | exact l30.o | exact l31.o | exact l32.o) | exact Fl.t | exact Fl.any _)) : p := (h ⟨k.1⟩ ⟨(k.2).1⟩ ⟨(k.2.2).1⟩ ⟨(k.2.2.2).1⟩ ⟨(k.2.2.2.2).1⟩ ⟨(k.2.2.2.2.2).1⟩ ⟨(k.2.2.2.2.2.2).1⟩ ⟨(k.2.2.2.2.2.2.2).1⟩ ⟨(k.2.2.2.2.2.2.2.2).1⟩ ⟨(k.2.2.2.2.2.2.2.2.2).1⟩ ⟨(k.2.2.2.2.2.2.2.2.2.2).1⟩ ⟨(k.2.2.2.2.2.2.2.2.2.2.2).1⟩ ⟨(k.2.2.2.2.2.2.2.2.2.2.2.2).1⟩ ⟨(k.2.2.2.2.2.2.2.2.2.2.2.2.2).1⟩ ⟨(k.2.2.2.2.2.2.2.2.2.2.2.2.2.2).1⟩ ⟨(k.2.2.2.2.2.2.2.2.2.2.2.2.2.2.2).1⟩ ⟨(k.2.2.2.2.2.2.2.2.2.2.2.2.2.2.2.2).1⟩ ⟨(k.2.2.2.2.2.2.2.2.2.2.2.2.2.2.2.2.2).1⟩ ⟨(k.2.2.2.2.2.2.2.2.2.2.2.2.2.2.2.2.2.2).1⟩ ⟨(k.2.2.2.2.2.2.2.2.2.2.2.2.2.2.2.2.2.2.2).1⟩ ⟨(k.2.2.2.2.2.2.2.2.2.2.2.2.2.2.2.2.2.2.2.2).1⟩ ⟨(k.2.2.2.2.2.2.2.2.2.2.2.2.2.2.2.2.2.2.2.2.2).1⟩ ⟨(k.2.2.2.2.2.2.2.2.2.2.2.2.2.2.2.2.2.2.2.2.2.2).1⟩ ⟨(k.2.2.2.2.2.2.2.2.2.2.2.2.2.2.2.2.2.2.2.2.2.2.2).1⟩ ⟨(k.2.2.2.2.2.2.2.2.2.2.2.2.2.2.2.2.2.2.2.2.2.2.2.2).1⟩ ⟨(k.2.2.2.2.2.2.2.2.2.2.2.2.2.2.2.2.2.2.2.2.2.2.2.2.2).1⟩ ⟨(k.2.2.2.2.2.2.2.2.2.2.2.2.2.2.2.2.2.2.2.2.2.2.2.2.2.2).1⟩ ⟨(k.2.2.2.2.2.2.2.2.2.2.2.2.2.2.2.2.2.2.2.2.2.2.2.2.2.2.2).1⟩ ⟨(k.2.2.2.2.2.2.2.2.2.2.2.2.2.2.2.2.2.2.2.2.2.2.2.2.2.2.2.2).1⟩ ⟨(k.2.2.2.2.2.2.2.2.2.2.2.2.2.2.2.2.2.2.2.2.2.2.2.2.2.2.2.2.2).1⟩ ⟨(k.2.2.2.2.2.2.2.2.2.2.2.2.2.2.2.2.2.2.2.2.2.2.2.2.2.2.2.2.2.2).1⟩ ⟨k.2.2.2.2.2.2.2.2.2.2.2.2.2.2.2.2.2.2.2.2.2.2.2.2.2.2.2.2.2.2.2⟩).1
theorem wkS {p q1 q2 q3 q4 q5 q6 q7 q8 q9 q10 q11 q12 q13 q14 q15 q16 q17 q18 q19 q20 q21 q22 q23 q24 q25 q26 q27 q28 q29 q30 q31 q32 : Prop} (k : Lf q1 (Lf q2 (Lf q3 (Lf q4 (Lf q5 (Lf q6 (Lf q7 (Lf q8 (Lf q9 (Lf q10 (Lf q11 (Lf q12 (Lf q13 (Lf q14 (Lf q15 (Lf q16 (Lf q17 (Lf q18 (Lf q19 (Lf q20 (Lf q21 (Lf q22 (Lf q23 (Lf q24 (Lf q25 (Lf q26 (Lf q27 (Lf q28 (Lf q29 (Lf q30 (Lf q31 q32))))))))))))))))))))))))))))))) (h : Bx q1 → Bx q2 → Bx q3 → Bx q4 → Bx q5 → Bx q6 → Bx q7 → Bx q8 → Bx q9 → Bx q10 → Bx q11 → Bx q12 → Bx q13 → Bx q14 → Bx q15 → Bx q16 → Bx q17 → Bx q18 → Bx q19 → Bx q20 → Bx q21 → Bx q22 → Bx q23 → Bx q24 → Bx q25 → Bx q26 → Bx q27 → Bx q28 → Bx q29 → Bx q30 → Bx q31 → Bx q32 → p ∧ Fl q1 ∧ Fl q2 ∧ Fl q3 ∧ Fl q4 ∧ Fl q5 ∧ Fl q6 ∧ Fl q7 ∧ Fl q8 ∧ Fl q9 ∧ Fl q10 ∧ Fl q11 ∧ Fl q12 ∧ Fl q13 ∧ Fl q14 ∧ Fl q15 ∧ Fl q16 ∧ Fl q17 ∧ Fl q18 ∧ Fl q19 ∧ Fl q20 ∧ Fl q21 ∧ Fl q22 ∧ Fl q23 ∧ Fl q24 ∧ Fl q25 ∧ Fl q26 ∧ Fl q27 ∧ Fl q28 ∧ Fl q29 ∧ Fl q30 ∧ Fl q31 ∧ Fl q32 := by
    intro l1 l2 l3 l4 l5 l6 l7 l8 l9 l10 l11 l12 l13 l14 l15 l16 l17 l18 l19 l20 l21 l22 l23 l24 l25 l26 l27 l28 l29 l30 l31 l32; refine ⟨?_, ?_, ?_, ?_, ?_, ?_, ?_, ?_, ?_, ?_, ?_, ?_, ?_, ?_, ?_, ?_, ?_, ?_, ?_, ?_, ?_, ?_, ?_, ?_, ?_, ?_, ?_, ?_, ?_, ?_, ?_, ?_, ?_⟩; have hP := True.intro; (first | have ww1 := @ww1 | have ww1 := True.intro); (first | have ww2 := @ww2 | have ww2 := True.intro); (first | have ww3 := @ww3 | have ww3 := True.intro); (first | have ww4 := @ww4 | have ww4 := True.intro); (first | have ww5 := @ww5 | have ww5 := True.intro); (first | have ww6 := @ww6 | have ww6 := True.intro); (first | have ww7 := @ww7 | have ww7 := True.intro); (first | have ww8 := @ww8 | have ww8 := True.intro); (first | have ww9 := @ww9 | have ww9 := True.intro); (first | have ww10 := @ww10 | have ww10 := True.intro); (first | have ww11 := @ww11 | have ww11 := True.intro); (first | have ww12 := @ww12 | have ww12 := True.intro); (first | have ww13 := @ww13 | have ww13 := True.intro); (first | have ww14 := @ww14 | have ww14 := True.intro); (first | have ww15 := @ww15 | have ww15 := True.intro); (first | have ww16 := @ww16 | have ww16 := True.intro); (repeat' (first | refine awp_seq ?_ | refine awp_block ?_ | refine awp_scope ?_ | ((first | refine awp_region_k fun Kn Kp hn hp => ?_ | (show AWP _ _ (Code.region _ _ true) _ _ _; first | refine Drawn.go rr1 (by rfl) fun Kn Kp hn hp => ?_ | refine Drawn.go rr2 (by rfl) fun Kn Kp hn hp => ?_ | refine Drawn.go rr3 (by rfl) fun Kn Kp hn hp => ?_ | refine Drawn.go rr4 (by rfl) fun Kn Kp hn hp => ?_ | refine Drawn.go rr5 (by rfl) fun Kn Kp hn hp => ?_ | refine Drawn.go rr6 (by rfl) fun Kn Kp hn hp => ?_ | refine Drawn.goS rr1 (by rfl) fun Kn Kp hn hp => ?_ | refine Drawn.goS rr2 (by rfl) fun Kn Kp hn hp => ?_ | refine Drawn.goS rr3 (by rfl) fun Kn Kp hn hp => ?_ | refine Drawn.goS rr4 (by rfl) fun Kn Kp hn hp => ?_ | refine Drawn.goS rr5 (by rfl) fun Kn Kp hn hp => ?_ | refine Drawn.goS rr6 (by rfl) fun Kn Kp hn hp => ?_) | refine oge_intro (by assumption) ?_ | (show AWE _ _ _ _ _ _ _ _ _; first | refine awe_intro (cc1 ..) ?_| refine awe_intro (cc2 ..) ?_| refine awe_intro (cc3 ..) ?_| refine awe_intro (cc4 ..) ?_| refine awe_intro (cc5 ..) ?_| refine awe_intro (cc6 ..) ?_| refine awe_intro (cc7 ..) ?_| refine awe_intro (cc8 ..) ?_| refine awe_intro (cc9 ..) ?_| refine awe_intro (cc10 ..) ?_| refine awe_intro (cc11 ..) ?_| refine awe_intro (cc12 ..) ?_| refine awe_intro (ARun.lendA dd1) ?_| refine awe_intro (ARun.lendA dd2) ?_| refine awe_intro (ARun.lendA dd3) ?_| refine awe_intro (ARun.lendA dd4) ?_| refine awe_intro (ARun.lendA dd5) ?_| refine awe_intro (ARun.lendA dd6) ?_| refine awe_intro (ARun.lendA dd7) ?_| refine awe_intro (ARun.lendA dd8) ?_) | (show AWSF _ _ _ _ _ _ _ _ _ _ _; first | refine awsf_intro (cc1 ..) (fun hrun => ?_)| refine awsf_intro (cc2 ..) (fun hrun => ?_)| refine awsf_intro (cc3 ..) (fun hrun => ?_)| refine awsf_intro (cc4 ..) (fun hrun => ?_)| refine awsf_intro (cc5 ..) (fun hrun => ?_)| refine awsf_intro (cc6 ..) (fun hrun => ?_)| refine awsf_intro (cc7 ..) (fun hrun => ?_)| refine awsf_intro (cc8 ..) (fun hrun => ?_)| refine awsf_intro (cc9 ..) (fun hrun => ?_)| refine awsf_intro (cc10 ..) (fun hrun => ?_)| refine awsf_intro (cc11 ..) (fun hrun => ?_)| refine awsf_intro (cc12 ..) (fun hrun => ?_)| refine awsf_intro (ARun.lendA dd1) (fun hrun => ?_)| refine awsf_intro (ARun.lendA dd2) (fun hrun => ?_)| refine awsf_intro (ARun.lendA dd3) (fun hrun => ?_)| refine awsf_intro (ARun.lendA dd4) (fun hrun => ?_)| refine awsf_intro (ARun.lendA dd5) (fun hrun => ?_)| refine awsf_intro (ARun.lendA dd6) (fun hrun => ?_)| refine awsf_intro (ARun.lendA dd7) (fun hrun => ?_)| refine awsf_intro (ARun.lendA dd8) (fun hrun => ?_)) | (show OGE _ _ _ _ _ _ _; first | refine oge_intro (cc1 ..) ?_| refine oge_intro (cc2 ..) ?_| refine oge_intro (cc3 ..) ?_| refine oge_intro (cc4 ..) ?_| refine oge_intro (cc5 ..) ?_| refine oge_intro (cc6 ..) ?_| refine oge_intro (cc7 ..) ?_| refine oge_intro (cc8 ..) ?_| refine oge_intro (cc9 ..) ?_| refine oge_intro (cc10 ..) ?_| refine oge_intro (cc11 ..) ?_| refine oge_intro (cc12 ..) ?_| refine oge_intro (ARun.lendA dd1) ?_| refine oge_intro (ARun.lendA dd2) ?_| refine oge_intro (ARun.lendA dd3) ?_| refine oge_intro (ARun.lendA dd4) ?_| refine oge_intro (ARun.lendA dd5) ?_| refine oge_intro (ARun.lendA dd6) ?_| refine oge_intro (ARun.lendA dd7) ?_| refine oge_intro (ARun.lendA dd8) ?_) | (show AWSE _ _ _ _ _ _ _ _ _ _ _; first | refine awse_intro (cc1 ..) (fun hrun => ?_)| refine awse_intro (cc2 ..) (fun hrun => ?_)| refine awse_intro (cc3 ..) (fun hrun => ?_)| refine awse_intro (cc4 ..) (fun hrun => ?_)| refine awse_intro (cc5 ..) (fun hrun => ?_)| refine awse_intro (cc6 ..) (fun hrun => ?_)| refine awse_intro (cc7 ..) (fun hrun => ?_)| refine awse_intro (cc8 ..) (fun hrun => ?_)| refine awse_intro (cc9 ..) (fun hrun => ?_)| refine awse_intro (cc10 ..) (fun hrun => ?_)| refine awse_intro (cc11 ..) (fun hrun => ?_)| refine awse_intro (cc12 ..) (fun hrun => ?_)| refine awse_intro (ARun.lendA dd1) (fun hrun => ?_)| refine awse_intro (ARun.lendA dd2) (fun hrun => ?_)| refine awse_intro (ARun.lendA dd3) (fun hrun => ?_)| refine awse_intro (ARun.lendA dd4) (fun hrun => ?_)| refine awse_intro (ARun.lendA dd5) (fun hrun => ?_)| refine awse_intro (ARun.lendA dd6) (fun hrun => ?_)| refine awse_intro (ARun.lendA dd7) (fun hrun => ?_)| refine awse_intro (ARun.lendA dd8) (fun hrun => ?_)) | (show PGE _ _ _ _ _; first | refine pge_intro (cc1 ..) (fun tm' => ?_)| refine pge_intro (cc2 ..) (fun tm' => ?_)| refine pge_intro (cc3 ..) (fun tm' => ?_)| refine pge_intro (cc4 ..) (fun tm' => ?_)| refine pge_intro (cc5 ..) (fun tm' => ?_)| refine pge_intro (cc6 ..) (fun tm' => ?_)| refine pge_intro (cc7 ..) (fun tm' => ?_)| refine pge_intro (cc8 ..) (fun tm' => ?_)| refine pge_intro (cc9 ..) (fun tm' => ?_)| refine pge_intro (cc10 ..) (fun tm' => ?_)| refine pge_intro (cc11 ..) (fun tm' => ?_)| refine pge_intro (cc12 ..) (fun tm' => ?_))) <;> (simp only [go_sem, Nat.reduceAdd, Nat.reduceSub, Nat.reduceMul, Nat.reduceLeDiff, Nat.reduceLT, Nat.reduceEqDiff, Int.reduceToNat, Int.reduceAdd, Int.reduceMul, Int.reduceSub, Int.reduceLT, Int.reduceLE, Int.reduceEq, Int.reduceNeg, Int.reduceBEq, Int.reduceBNe, ↓reduceIte, reduceCtorEq, List.set_set, Nat.mul_one, bne_self_eq_false, List.length_replicate, Int.le_refl, ww1, ww2, ww3, ww4, ww5, ww6, ww7, ww8, ww9, ww10, ww11, ww12, ww13, ww14, ww15, ww16] <;> try simp (disch := omega) only [wrap_of])) | (refine hn _ _ ?_; clear hn hp Kn Kp) | (refine hp _ _ _ ?_; clear hn hp Kn Kp) | (refine awp_cond rfl (fun hb => ?_) (fun hb => ?_) <;> (try simp only [decide_eq_true_eq, decide_eq_false_iff_not, Bool.not_eq_true', Bool.not_eq_false', Bool.true_eq_false, Bool.false_eq_true, beq_iff_eq, bne_iff_ne, bne_eq_false_iff_eq, beq_eq_false_iff_ne, gt_iff_lt, ge_iff_le, Int.reduceEq, Int.reduceNe, Int.reduceLT, Int.reduceLE, ne_eq, not_true_eq_false, not_false_eq_true] at hb) <;> replace hP := And.intro hb hP) | ((first | refine awg_split (fun hb => ?_) (fun hb => ?_) | refine awsg_split (fun hb => ?_) (fun hb => ?_)) <;> have hb0 := hb <;> (try simp only [decide_eq_true_eq, decide_eq_false_iff_not, Bool.not_eq_true', Bool.not_eq_false', Bool.true_eq_false, Bool.false_eq_true, beq_iff_eq, bne_iff_ne, bne_eq_false_iff_eq, beq_eq_false_iff_ne, gt_iff_lt, ge_iff_le, Int.reduceEq, Int.reduceNe, Int.reduceLT, Int.reduceLE, ne_eq, not_true_eq_false, not_false_eq_true] at hb0) <;> (try simp only [beq_true, beq_false, Bool.not_eq_true', Bool.not_eq_false'] at hb) <;> (simp only [go_sem, Nat.reduceAdd, Nat.reduceSub, Nat.reduceMul, Nat.reduceLeDiff, Nat.reduceLT, Nat.reduceEqDiff, Int.reduceToNat, Int.reduceAdd, Int.reduceMul, Int.reduceSub, Int.reduceLT, Int.reduceLE, Int.reduceEq, Int.reduceNeg, Int.reduceBEq, Int.reduceBNe, ↓reduceIte, reduceCtorEq, List.set_set, Nat.mul_one, bne_self_eq_false, List.length_replicate, Int.le_refl, ww1, ww2, ww3, ww4, ww5, ww6, ww7, ww8, ww9, ww10, ww11, ww12, ww13, ww14, ww15, ww16, hb, hb0] <;> try simp (disch := omega) only [wrap_of]) <;> replace hP := And.intro hb0 hP) | (refine And.intro ?_ ?_) | (show SameAt _ _ _; repeat' (first | exact True.intro | exact rfl | refine And.intro ?_ ?_)) | refine awp_skip ?_ | refine awp_ret ?_ | refine awp_exit ?_ | refine awp_label ?_ | refine awloop_step ?_ | (simp only [go_sem, Nat.reduceAdd, Nat.reduceSub, Nat.reduceMul, Nat.reduceLeDiff, Nat.reduceLT, Nat.reduceEqDiff, Int.reduceToNat, Int.reduceAdd, Int.reduceMul, Int.reduceSub, Int.reduceLT, Int.reduceLE, Int.reduceEq, Int.reduceNeg, Int.reduceBEq, Int.reduceBNe, ↓reduceIte, reduceCtorEq, List.set_set, Nat.mul_one, bne_self_eq_false, List.length_replicate, Int.le_refl, ww1, ww2, ww3, ww4, ww5, ww6, ww7, ww8, ww9, ww10, ww11, ww12, ww13, ww14, ww15, ww16]) | fail)); all_goals (first | (revert hP; first | exact l1.o | exact l2.o | exact l3.o | exact l4.o | exact l5.o | exact l6.o | exact l7.o | exact l8.o | exact l9.o | exact l10.o | exact l11.o | exact l12.o | exact l13.o | exact l14.o | exact l15.o | exact l16.o | exact l17.o | exact l18.o | exact l19.o | exact l20.o | exact l21.o | exact l22.o | exact l23.o | exact l24.o | exact l25.o | exact l26.o | exact l27.o | exact l28.o | exact l29.o | exact l30.o | exact l31.o | exact l32.o) | exact Fl.t | exact Fl.any _)) : p := (h ⟨k.1⟩ ⟨(k.2).1⟩ ⟨(k.2.2).1⟩ ⟨(k.2.2.2).1⟩ ⟨(k.2.2.2.2).1⟩ ⟨(k.2.2.2.2.2).1⟩ ⟨(k.2.2.2.2.2.2).1⟩ ⟨(k.2.2.2.2.2.2.2).1⟩ ⟨(k.2.2.2.2.2.2.2.2).1⟩ ⟨(k.2.2.2.2.2.2.2.2.2).1⟩ ⟨(k.2.2.2.2.2.2.2.2.2.2).1⟩ ⟨(k.2.2.2.2.2.2.2.2.2.2.2).1⟩ ⟨(k.2.2.2.2.2.2.2.2.2.2.2.2).1⟩ ⟨(k.2.2.2.2.2.2.2.2.2.2.2.2.2).1⟩ ⟨(k.2.2.2.2.2.2.2.2.2.2.2.2.2.2).1⟩ ⟨(k.2.2.2.2.2.2.2.2.2.2.2.2.2.2.2).1⟩ ⟨(k.2.2.2.2.2.2.2.2.2.2.2.2.2.2.2.2).1⟩ ⟨(k.2.2.2.2.2.2.2.2.2.2.2.2.2.2.2.2.2).1⟩ ⟨(k.2.2.2.2.2.2.2.2.2.2.2.2.2.2.2.2.2.2).1⟩ ⟨(k.2.2.2.2.2.2.2.2.2.2.2.2.2.2.2.2.2.2.2).1⟩ ⟨(k.2.2.2.2.2.2.2.2.2.2.2.2.2.2.2.2.2.2.2.2).1⟩ ⟨(k.2.2.2.2.2.2.2.2.2.2.2.2.2.2.2.2.2.2.2.2.2).1⟩ ⟨(k.2.2.2.2.2.2.2.2.2.2.2.2.2.2.2.2.2.2.2.2.2.2).1⟩ ⟨(k.2.2.2.2.2.2.2.2.2.2.2.2.2.2.2.2.2.2.2.2.2.2.2).1⟩ ⟨(k.2.2.2.2.2.2.2.2.2.2.2.2.2.2.2.2.2.2.2.2.2.2.2.2).1⟩ ⟨(k.2.2.2.2.2.2.2.2.2.2.2.2.2.2.2.2.2.2.2.2.2.2.2.2.2).1⟩ ⟨(k.2.2.2.2.2.2.2.2.2.2.2.2.2.2.2.2.2.2.2.2.2.2.2.2.2.2).1⟩ ⟨(k.2.2.2.2.2.2.2.2.2.2.2.2.2.2.2.2.2.2.2.2.2.2.2.2.2.2.2).1⟩ ⟨(k.2.2.2.2.2.2.2.2.2.2.2.2.2.2.2.2.2.2.2.2.2.2.2.2.2.2.2.2).1⟩ ⟨(k.2.2.2.2.2.2.2.2.2.2.2.2.2.2.2.2.2.2.2.2.2.2.2.2.2.2.2.2.2).1⟩ ⟨(k.2.2.2.2.2.2.2.2.2.2.2.2.2.2.2.2.2.2.2.2.2.2.2.2.2.2.2.2.2.2).1⟩ ⟨k.2.2.2.2.2.2.2.2.2.2.2.2.2.2.2.2.2.2.2.2.2.2.2.2.2.2.2.2.2.2.2⟩).1
theorem resX {p q1 : Prop} (k : q1) (h : Bx q1 → p ∧ Fl q1 := by
    intro l1; refine ⟨?_, ?_⟩; (· (try simp only [go_sem, Nat.reduceAdd, Nat.reduceSub, Nat.reduceMul, Nat.reduceLeDiff, Nat.reduceLT, Nat.reduceEqDiff, Int.reduceToNat, Int.reduceAdd, Int.reduceMul, Int.reduceSub, Int.reduceLT, Int.reduceLE, Int.reduceEq, Int.reduceNeg, Int.reduceBEq, Int.reduceBNe, ↓reduceIte, reduceCtorEq]); (first | refine ⟨_, rfl, _, rfl, Fin.pure0 0 ?_⟩ | refine ⟨_, rfl, _, rfl, Fin.pure 1 ?_⟩); simp only [AV.low, List.map_cons, List.map_nil, aOne, aev, List.getElem?_cons_zero, List.getElem?_cons_succ, Option.getD_some, List.length_append, List.length_cons, List.length_nil, Nat.lt_irrefl, if_false]; (try rfl); all_goals (first | exact l1.o)); all_goals (first | exact Fl.t | exact Fl.any _)) : p := (h ⟨k⟩).1
theorem resC {p q1 q2 q3 : Prop} (k : Lf q1 (Lf q2 q3)) (h : Bx q1 → Bx q2 → Bx q3 → p ∧ Fl q1 ∧ Fl q2 ∧ Fl q3 := by
    intro l1 l2 l3; refine ⟨?_, ?_, ?_, ?_⟩; (· (try simp only [go_sem, Nat.reduceAdd, Nat.reduceSub, Nat.reduceMul, Nat.reduceLeDiff, Nat.reduceLT, Nat.reduceEqDiff, Int.reduceToNat, Int.reduceAdd, Int.reduceMul, Int.reduceSub, Int.reduceLT, Int.reduceLE, Int.reduceEq, Int.reduceNeg, Int.reduceBEq, Int.reduceBNe, ↓reduceIte, reduceCtorEq]); refine ⟨_, rfl, _, rfl, Fin.pureC 2 ?_⟩; simp only [List.map_cons, List.map_nil, AV.low, AV.toPV, AV.toPVs, AV.toPVr, getO0, getOk, getS0, getSk, List.getElem?_cons_zero, List.getElem?_cons_succ, Nat.not_lt_zero, if_false, if_true, List.length_cons, List.length_nil, Nat.zero_le, and_self, and_true, true_and, List.drop_zero, List.take_succ_cons, List.take_zero, List.take_nil, Option.map_some, Nat.zero_add, aOne, aev, Option.getD_some, Nat.lt_irrefl, show ∀ n k : Nat, (n + k < n) = False from fun n k => by simp, show ∀ n k : Nat, (n ≤ n + k) = True from fun n k => by simp]; all_goals (first | exact l1.o | exact l2.o | exact l3.o)); all_goals (first | exact Fl.t | exact Fl.any _)) : p := (h ⟨k.1⟩ ⟨(k.2).1⟩ ⟨k.2.2⟩).1
theorem panX {p q1 : Prop} (k : q1) (h : Bx q1 → p ∧ Fl q1 := by
    intro l1; refine ⟨?_, ?_⟩; (· (first | refine ⟨_, rfl, Fin.pure0 0 ?_⟩ | refine ⟨_, rfl, Fin.pure 1 ?_⟩); simp only [AV.low]; (try rfl); all_goals (first | exact l1.o)); all_goals (first | exact Fl.t | exact Fl.any _)) : p := (h ⟨k⟩).1
theorem fgtX {p q1 : Prop} (k : q1) (h : Bx q1 → p ∧ Fl q1 := by
    intro l1; refine ⟨?_, ?_⟩; (· refine Wk.fgt ?_; simp only [Fgt, List.length_nil, List.set_cons_zero, List.set_cons_succ, Int.natCast_zero, Int.cast_ofNat_Int, Int.ofNat_eq_natCast, true_or, or_true, true_and, and_true, and_self, eq_self]; all_goals (first | exact l1.o)); all_goals (first | exact Fl.t | exact Fl.any _)) : p := (h ⟨k⟩).1
theorem fgX {p q1 : Prop} (k : q1) (h : Bx q1 → p ∧ Fl q1 := by
    intro l1; refine ⟨?_, ?_⟩; (· simp only [Fgt, List.length_nil, List.set_cons_zero, List.set_cons_succ, Int.natCast_zero, Int.cast_ofNat_Int, Int.ofNat_eq_natCast, true_or, or_true, true_and, and_true, and_self, eq_self]; all_goals (first | exact l1.o)); all_goals (first | exact Fl.t | exact Fl.any _)) : p := (h ⟨k⟩).1
theorem dropX {p q1 : Prop} (k : q1) (h : Bx q1 → p ∧ Fl q1 := by
    intro l1; refine ⟨?_, ?_⟩; (· (first | (refine Wk.drop0 1 ?_; simp only [List.map_cons, List.map_nil, AV.low, List.length_append, List.length_cons, List.length_nil, Nat.lt_irrefl, if_false, Fgt, Int.natCast_zero, Int.cast_ofNat_Int, Int.ofNat_eq_natCast, true_or, or_true, true_and, and_true, and_self, eq_self]) | (refine Wk.fgt ?_; simp only [Fgt, List.length_nil, List.set_cons_zero, List.set_cons_succ, Int.natCast_zero, Int.cast_ofNat_Int, Int.ofNat_eq_natCast, true_or, or_true, true_and, and_true, and_self, eq_self])); all_goals (first | exact l1.o)); all_goals (first | exact Fl.t | exact Fl.any _)) : p := (h ⟨k⟩).1
end Go.Proofs.YtpfjlifneibhfaaGreat.AL
namespace Go.Proofs.YtpfjlifneibhfaaGreat.Y
open Go.Proofs.YtpfjlifneibhfaaGreat.AL Go.Proofs
instance : GTab := ⟨fun _ => none⟩
theorem ty1 : ATy.of Tryz.prog 1 = some ⟨1, 8, [.nilFunc], .other⟩ := by kernel_rfl
theorem ty2 : ATy.of Tryz.prog 2 = some ⟨1, 8, [.int .i64 0], .int⟩ := by kernel_rfl
theorem ty3 : ATy.of Tryz.prog 3 = some ⟨1, 8, [.int .i64 0], .int⟩ := by kernel_rfl
theorem ty4 : ATy.of Tryz.prog 4 = some ⟨1, 1, [.bool false], .bool⟩ := by kernel_rfl
theorem ty5 : ATy.of Tryz.prog 5 = some ⟨1, 1, [.int .u8 0], .int⟩ := by kernel_rfl
theorem ty6 : ATy.of Tryz.prog 6 = some ⟨1, 1, [.int .u8 0], .int⟩ := by kernel_rfl
theorem ty7 : ATy.of Tryz.prog 7 = some ⟨4, 24, [.int .i64 0, .int .i64 0, .bool false, .int .u8 0], .struct [(0, 2), (1, 3), (2, 4), (3, 6)]⟩ := by kernel_rfl
theorem ty8 : ATy.of Tryz.prog 8 = some ⟨4, 24, [.int .i64 0, .int .i64 0, .bool false, .int .u8 0], .struct [(0, 2), (1, 3), (2, 4), (3, 6)]⟩ := by kernel_rfl
theorem ty9 : ATy.of Tryz.prog 9 = some ⟨1, 16, [.string ⟨#[]⟩], .str⟩ := by kernel_rfl
theorem ty10 : ATy.of Tryz.prog 10 = some ⟨1, 16, [.string ⟨#[]⟩], .str⟩ := by kernel_rfl
theorem ty11 : ATy.of Tryz.prog 11 = some ⟨1, 16, [.string ⟨#[]⟩], .str⟩ := by kernel_rfl
theorem ty12 : ATy.of Tryz.prog 12 = some ⟨1, 8, [.int .u64 0], .int⟩ := by kernel_rfl
theorem ty13 : ATy.of Tryz.prog 13 = some ⟨2, 24, [.string ⟨#[]⟩, .int .u64 0], .struct [(0, 9), (1, 12)]⟩ := by kernel_rfl
theorem ty14 : ATy.of Tryz.prog 14 = some ⟨2, 24, [.string ⟨#[]⟩, .int .u64 0], .struct [(0, 9), (1, 12)]⟩ := by kernel_rfl
theorem ty15 : ATy.of Tryz.prog 15 = some ⟨1, 8, [.pointer none], .other⟩ := by kernel_rfl
theorem ty16 : ATy.of Tryz.prog 16 = some ⟨1, 8, [.pointer none], .other⟩ := by kernel_rfl
theorem ty17 : ATy.of Tryz.prog 17 = some ⟨1, 8, [.pointer none], .other⟩ := by kernel_rfl
theorem ty18 : ATy.of Tryz.prog 18 = some ⟨1, 8, [.pointer none], .struct [(0, 17)]⟩ := by kernel_rfl
theorem ty19 : ATy.of Tryz.prog 19 = some ⟨1, 8, [.pointer none], .struct [(0, 17)]⟩ := by kernel_rfl
theorem ty20 : ATy.of Tryz.prog 20 = some ⟨1, 16, [.nilIface], .iface⟩ := by kernel_rfl
theorem ty21 : ATy.of Tryz.prog 21 = some ⟨1, 4, [.int .i32 0], .int⟩ := by kernel_rfl
theorem ty22 : ATy.of Tryz.prog 22 = some ⟨1, 24, [.slice none 0 0], .slice 59⟩ := by kernel_rfl
theorem ty23 : ATy.of Tryz.prog 23 = some ⟨1, 24, [.slice none 0 0], .slice 50⟩ := by kernel_rfl
theorem ty24 : ATy.of Tryz.prog 24 = some ⟨5, 120, [.slice none 0 0, .slice none 0 0, .slice none 0 0, .slice none 0 0, .slice none 0 0], .array 5 23⟩ := by kernel_rfl
theorem ty25 : ATy.of Tryz.prog 25 = some ⟨9, 176, [.string ⟨#[]⟩, .slice none 0 0, .slice none 0 0, .slice none 0 0, .slice none 0 0, .slice none 0 0, .slice none 0 0, .int .i64 0, .int .i64 0], .struct [(0, 9), (1, 22), (2, 24), (7, 3), (8, 3)]⟩ := by kernel_rfl
theorem ty26 : ATy.of Tryz.prog 26 = some ⟨9, 176, [.string ⟨#[]⟩, .slice none 0 0, .slice none 0 0, .slice none 0 0, .slice none 0 0, .slice none 0 0, .slice none 0 0, .int .i64 0, .int .i64 0], .struct [(0, 9), (1, 22), (2, 24), (7, 3), (8, 3)]⟩ := by kernel_rfl
theorem ty27 : ATy.of Tryz.prog 27 = some ⟨1, 24, [.slice none 0 0], .slice 3⟩ := by kernel_rfl
theorem ty28 : ATy.of Tryz.prog 28 = some ⟨4, 32, [.int .i64 0, .int .i64 0, .int .i64 0, .int .i64 0], .array 4 3⟩ := by kernel_rfl
theorem ty29 : ATy.of Tryz.prog 29 = some ⟨5, 40, [.int .i64 0, .int .i64 0, .int .i64 0, .int .i64 0, .int .i64 0], .struct [(0, 3), (1, 28)]⟩ := by kernel_rfl
theorem ty30 : ATy.of Tryz.prog 30 = some ⟨5, 40, [.int .i64 0, .int .i64 0, .int .i64 0, .int .i64 0, .int .i64 0], .struct [(0, 3), (1, 28)]⟩ := by kernel_rfl
theorem ty31 : ATy.of Tryz.prog 31 = some ⟨1, 24, [.slice none 0 0], .slice 33⟩ := by kernel_rfl
theorem ty32 : ATy.of Tryz.prog 32 = some ⟨4, 48, [.int .i64 0, .int .i64 0, .int .i64 0, .slice none 0 0], .struct [(0, 3), (1, 3), (2, 3), (3, 31)]⟩ := by kernel_rfl
theorem ty33 : ATy.of Tryz.prog 33 = some ⟨4, 48, [.int .i64 0, .int .i64 0, .int .i64 0, .slice none 0 0], .struct [(0, 3), (1, 3), (2, 3), (3, 31)]⟩ := by kernel_rfl
theorem ty34 : ATy.of Tryz.prog 34 = some ⟨1, 8, [.nilFunc], .other⟩ := by kernel_rfl
theorem ty35 : ATy.of Tryz.prog 35 = some ⟨1, 8, [.nilFunc], .other⟩ := by kernel_rfl
theorem ty36 : ATy.of Tryz.prog 36 = some ⟨1, 8, [.nilFunc], .other⟩ := by kernel_rfl
theorem ty37 : ATy.of Tryz.prog 37 = some ⟨1, 8, [.int .i64 0], .int⟩ := by kernel_rfl
theorem ty39 : ATy.of Tryz.prog 39 = some ⟨1, 8, [.nilFunc], .other⟩ := by kernel_rfl
theorem ty41 : ATy.of Tryz.prog 41 = some ⟨1, 8, [.nilFunc], .other⟩ := by kernel_rfl
theorem ty42 : ATy.of Tryz.prog 42 = some ⟨1, 8, [.nilFunc], .other⟩ := by kernel_rfl
theorem ty43 : ATy.of Tryz.prog 43 = some ⟨1, 8, [.nilFunc], .other⟩ := by kernel_rfl
theorem ty44 : ATy.of Tryz.prog 44 = some ⟨1, 8, [.nilFunc], .other⟩ := by kernel_rfl
theorem ty45 : ATy.of Tryz.prog 45 = some ⟨1, 8, [.nilFunc], .other⟩ := by kernel_rfl
theorem ty46 : ATy.of Tryz.prog 46 = some ⟨1, 8, [.nilFunc], .other⟩ := by kernel_rfl
theorem ty47 : ATy.of Tryz.prog 47 = some ⟨1, 8, [.nilFunc], .other⟩ := by kernel_rfl
theorem ty48 : ATy.of Tryz.prog 48 = some ⟨1, 8, [.nilFunc], .other⟩ := by kernel_rfl
theorem ty49 : ATy.of Tryz.prog 49 = some ⟨13, 168, [.int .i64 0, .int .i64 0, .int .i64 0, .int .i64 0, .int .i64 0, .int .i64 0, .slice none 0 0, .int .i64 0, .int .i64 0, .int .i64 0, .slice none 0 0, .slice none 0 0, .slice none 0 0], .struct [(0, 3), (1, 3), (2, 3), (3, 33), (7, 33), (11, 23), (12, 23)]⟩ := by kernel_rfl
theorem ty50 : ATy.of Tryz.prog 50 = some ⟨13, 168, [.int .i64 0, .int .i64 0, .int .i64 0, .int .i64 0, .int .i64 0, .int .i64 0, .slice none 0 0, .int .i64 0, .int .i64 0, .int .i64 0, .slice none 0 0, .slice none 0 0, .slice none 0 0], .struct [(0, 3), (1, 3), (2, 3), (3, 33), (7, 33), (11, 23), (12, 23)]⟩ := by kernel_rfl
theorem ty51 : ATy.of Tryz.prog 51 = some ⟨1, 8, [.nilFunc], .other⟩ := by kernel_rfl
theorem ty52 : ATy.of Tryz.prog 52 = some ⟨1, 8, [.nilFunc], .other⟩ := by kernel_rfl
theorem ty53 : ATy.of Tryz.prog 53 = some ⟨1, 8, [.nilFunc], .other⟩ := by kernel_rfl
theorem ty54 : ATy.of Tryz.prog 54 = some ⟨1, 8, [.nilFunc], .other⟩ := by kernel_rfl
theorem ty55 : ATy.of Tryz.prog 55 = some ⟨1, 8, [.nilFunc], .other⟩ := by kernel_rfl
theorem ty56 : ATy.of Tryz.prog 56 = some ⟨1, 8, [.nilFunc], .other⟩ := by kernel_rfl
theorem ty57 : ATy.of Tryz.prog 57 = some ⟨1, 8, [.nilFunc], .other⟩ := by kernel_rfl
theorem ty58 : ATy.of Tryz.prog 58 = some ⟨5, 48, [.string ⟨#[]⟩, .int .i64 0, .int .i64 0, .int .i64 0, .int .i64 0], .struct [(0, 9), (1, 3), (2, 3), (3, 3), (4, 3)]⟩ := by kernel_rfl
theorem ty59 : ATy.of Tryz.prog 59 = some ⟨5, 48, [.string ⟨#[]⟩, .int .i64 0, .int .i64 0, .int .i64 0, .int .i64 0], .struct [(0, 9), (1, 3), (2, 3), (3, 3), (4, 3)]⟩ := by kernel_rfl
theorem ty60 : ATy.of Tryz.prog 60 = some ⟨1, 8, [.nilFunc], .other⟩ := by kernel_rfl
theorem ty61 : ATy.of Tryz.prog 61 = some ⟨1, 8, [.nilFunc], .other⟩ := by kernel_rfl
theorem ty62 : ATy.of Tryz.prog 62 = some ⟨1, 8, [.nilFunc], .other⟩ := by kernel_rfl
theorem ty63 : ATy.of Tryz.prog 63 = some ⟨1, 8, [.nilFunc], .other⟩ := by kernel_rfl
theorem ty64 : ATy.of Tryz.prog 64 = some ⟨1, 8, [.pointer none], .other⟩ := by kernel_rfl
theorem ty65 : ATy.of Tryz.prog 65 = some ⟨1, 8, [.map none], .map 3 83⟩ := by kernel_rfl
theorem ty66 : ATy.of Tryz.prog 66 = some ⟨1, 8, [.nilFunc], .other⟩ := by kernel_rfl
theorem ty67 : ATy.of Tryz.prog 67 = some ⟨7, 88, [.slice none 0 0, .slice none 0 0, .int .i64 0, .int .i64 0, .int .i64 0, .int .i64 0, .map none], .struct [(0, 22), (1, 27), (2, 28), (6, 65)]⟩ := by kernel_rfl
theorem ty68 : ATy.of Tryz.prog 68 = some ⟨7, 88, [.slice none 0 0, .slice none 0 0, .int .i64 0, .int .i64 0, .int .i64 0, .int .i64 0, .map none], .struct [(0, 22), (1, 27), (2, 28), (6, 65)]⟩ := by kernel_rfl
theorem ty69 : ATy.of Tryz.prog 69 = some ⟨1, 8, [.nilFunc], .other⟩ := by kernel_rfl
theorem ty70 : ATy.of Tryz.prog 70 = some ⟨1, 8, [.nilFunc], .other⟩ := by kernel_rfl
theorem ty71 : ATy.of Tryz.prog 71 = some ⟨1, 8, [.nilFunc], .other⟩ := by kernel_rfl
theorem ty72 : ATy.of Tryz.prog 72 = some ⟨1, 8, [.nilFunc], .other⟩ := by kernel_rfl
theorem ty73 : ATy.of Tryz.prog 73 = some ⟨1, 8, [.nilFunc], .other⟩ := by kernel_rfl
theorem ty74 : ATy.of Tryz.prog 74 = some ⟨1, 8, [.nilFunc], .other⟩ := by kernel_rfl
theorem ty75 : ATy.of Tryz.prog 75 = some ⟨1, 8, [.map none], .map 9 4⟩ := by kernel_rfl
theorem ty76 : ATy.of Tryz.prog 76 = some ⟨1, 8, [.nilFunc], .other⟩ := by kernel_rfl
theorem ty77 : ATy.of Tryz.prog 77 = some ⟨1, 8, [.nilFunc], .other⟩ := by kernel_rfl
theorem ty78 : ATy.of Tryz.prog 78 = some ⟨1, 8, [.nilFunc], .other⟩ := by kernel_rfl
theorem ty79 : ATy.of Tryz.prog 79 = some ⟨1, 8, [.nilFunc], .other⟩ := by kernel_rfl
theorem ty80 : ATy.of Tryz.prog 80 = some ⟨1, 8, [.int .i64 0], .struct [(0, 37)]⟩ := by kernel_rfl
theorem ty81 : ATy.of Tryz.prog 81 = some ⟨1, 8, [.int .i64 0], .struct [(0, 37)]⟩ := by kernel_rfl
theorem ty83 : ATy.of Tryz.prog 83 = some ⟨1, 8, [.nilFunc], .other⟩ := by kernel_rfl
theorem ty84 : ATy.of Tryz.prog 84 = some ⟨1, 8, [.nilFunc], .other⟩ := by kernel_rfl
theorem ty86 : ATy.of Tryz.prog 86 = some ⟨1, 8, [.nilFunc], .other⟩ := by kernel_rfl
theorem ty87 : ATy.of Tryz.prog 87 = some ⟨1, 8, [.nilFunc], .other⟩ := by kernel_rfl
theorem ty89 : ATy.of Tryz.prog 89 = some ⟨1, 8, [.nilFunc], .other⟩ := by kernel_rfl
theorem ty90 : ATy.of Tryz.prog 90 = some ⟨1, 24, [.slice none 0 0], .slice 92⟩ := by kernel_rfl
theorem ty91 : ATy.of Tryz.prog 91 = some ⟨6, 72, [.int .i64 0, .string ⟨#[]⟩, .int .i64 0, .int .i64 0, .int .i64 0, .slice none 0 0], .struct [(0, 3), (1, 9), (2, 3), (3, 3), (4, 3), (5, 90)]⟩ := by kernel_rfl
theorem ty92 : ATy.of Tryz.prog 92 = some ⟨6, 72, [.int .i64 0, .string ⟨#[]⟩, .int .i64 0, .int .i64 0, .int .i64 0, .slice none 0 0], .struct [(0, 3), (1, 9), (2, 3), (3, 3), (4, 3), (5, 90)]⟩ := by kernel_rfl
theorem ty93 : ATy.of Tryz.prog 93 = some ⟨1, 8, [.nilFunc], .other⟩ := by kernel_rfl
theorem ty94 : ATy.of Tryz.prog 94 = some ⟨1, 8, [.pointer none], .other⟩ := by kernel_rfl
theorem ty96 : ATy.of Tryz.prog 96 = some ⟨1, 8, [.nilFunc], .other⟩ := by kernel_rfl
theorem ty97 : ATy.of Tryz.prog 97 = some ⟨1, 8, [.nilFunc], .other⟩ := by kernel_rfl
theorem ty98 : ATy.of Tryz.prog 98 = some ⟨1, 8, [.nilFunc], .other⟩ := by kernel_rfl
theorem ty99 : ATy.of Tryz.prog 99 = some ⟨1, 24, [.slice none 0 0], .slice 9⟩ := by kernel_rfl
theorem ty100 : ATy.of Tryz.prog 100 = some ⟨1, 8, [.nilFunc], .other⟩ := by kernel_rfl
theorem ty101 : ATy.of Tryz.prog 101 = some ⟨1, 8, [.nilFunc], .other⟩ := by kernel_rfl
theorem ty102 : ATy.of Tryz.prog 102 = some ⟨1, 8, [.nilFunc], .other⟩ := by kernel_rfl
theorem ty103 : ATy.of Tryz.prog 103 = some ⟨1, 8, [.nilFunc], .other⟩ := by kernel_rfl
theorem ty104 : ATy.of Tryz.prog 104 = some ⟨1, 8, [.nilFunc], .other⟩ := by kernel_rfl
theorem ty105 : ATy.of Tryz.prog 105 = some ⟨1, 8, [.nilFunc], .other⟩ := by kernel_rfl
theorem ty106 : ATy.of Tryz.prog 106 = some ⟨1, 8, [.nilFunc], .other⟩ := by kernel_rfl
theorem ty107 : ATy.of Tryz.prog 107 = some ⟨1, 24, [.slice none 0 0], .slice 111⟩ := by kernel_rfl
theorem ty108 : ATy.of Tryz.prog 108 = some ⟨1, 24, [.slice none 0 0], .struct [(0, 107)]⟩ := by kernel_rfl
theorem ty109 : ATy.of Tryz.prog 109 = some ⟨1, 24, [.slice none 0 0], .struct [(0, 107)]⟩ := by kernel_rfl
theorem ty110 : ATy.of Tryz.prog 110 = some ⟨3, 24, [.int .i64 0, .int .i64 0, .int .i64 0], .array 3 3⟩ := by kernel_rfl
theorem ty111 : ATy.of Tryz.prog 111 = some ⟨3, 24, [.int .i64 0, .int .i64 0, .int .i64 0], .array 3 3⟩ := by kernel_rfl
theorem ty113 : ATy.of Tryz.prog 113 = some ⟨1, 8, [.nilFunc], .other⟩ := by kernel_rfl
theorem ty114 : ATy.of Tryz.prog 114 = some ⟨1, 8, [.nilFunc], .other⟩ := by kernel_rfl
theorem ty115 : ATy.of Tryz.prog 115 = some ⟨1, 8, [.pointer none], .other⟩ := by kernel_rfl
theorem ty116 : ATy.of Tryz.prog 116 = some ⟨1, 8, [.nilFunc], .other⟩ := by kernel_rfl
theorem ty117 : ATy.of Tryz.prog 117 = some ⟨1, 8, [.nilFunc], .other⟩ := by kernel_rfl
theorem ty118 : ATy.of Tryz.prog 118 = some ⟨3, 24, [.int .i64 0, .int .i64 0, .int .i64 0], .struct [(0, 3), (1, 3), (2, 3)]⟩ := by kernel_rfl
theorem ty119 : ATy.of Tryz.prog 119 = some ⟨3, 24, [.int .i64 0, .int .i64 0, .int .i64 0], .struct [(0, 3), (1, 3), (2, 3)]⟩ := by kernel_rfl
theorem ty121 : ATy.of Tryz.prog 121 = some ⟨1, 8, [.nilFunc], .other⟩ := by kernel_rfl
theorem ty122 : ATy.of Tryz.prog 122 = some ⟨1, 8, [.nilFunc], .other⟩ := by kernel_rfl
theorem ty123 : ATy.of Tryz.prog 123 = some ⟨1, 8, [.nilFunc], .other⟩ := by kernel_rfl
theorem ty124 : ATy.of Tryz.prog 124 = some ⟨1, 8, [.nilFunc], .other⟩ := by kernel_rfl
theorem ty125 : ATy.of Tryz.prog 125 = some ⟨15, 120, [.int .i64 0, .int .i64 0, .int .i64 0, .int .i64 0, .int .i64 0, .int .i64 0, .int .i64 0, .int .i64 0, .int .i64 0, .int .i64 0, .int .i64 0, .int .i64 0, .int .i64 0, .int .i64 0, .int .i64 0], .array 5 111⟩ := by kernel_rfl
theorem ty126 : ATy.of Tryz.prog 126 = some ⟨1, 8, [.nilFunc], .other⟩ := by kernel_rfl
theorem ty127 : ATy.of Tryz.prog 127 = some ⟨1, 8, [.nilFunc], .other⟩ := by kernel_rfl
theorem ty128 : ATy.of Tryz.prog 128 = some ⟨1, 8, [.nilFunc], .other⟩ := by kernel_rfl
theorem ty129 : ATy.of Tryz.prog 129 = some ⟨1, 8, [.nilFunc], .other⟩ := by kernel_rfl
theorem ty130 : ATy.of Tryz.prog 130 = some ⟨1, 8, [.nilFunc], .other⟩ := by kernel_rfl
theorem ty131 : ATy.of Tryz.prog 131 = some ⟨1, 24, [.slice none 0 0], .slice 5⟩ := by kernel_rfl
theorem ty132 : ATy.of Tryz.prog 132 = some ⟨7, 56, [.int .i64 0, .int .i64 0, .int .i64 0, .int .i64 0, .int .i64 0, .int .i64 0, .int .i64 0], .array 7 3⟩ := by kernel_rfl
theorem ty133 : ATy.of Tryz.prog 133 = some ⟨1, 8, [.nilFunc], .other⟩ := by kernel_rfl
theorem ty134 : ATy.of Tryz.prog 134 = some ⟨1, 8, [.nilFunc], .other⟩ := by kernel_rfl
theorem ty135 : ATy.of Tryz.prog 135 = some ⟨1, 8, [.nilFunc], .other⟩ := by kernel_rfl
theorem ty136 : ATy.of Tryz.prog 136 = some ⟨1, 8, [.nilFunc], .other⟩ := by kernel_rfl
theorem ty137 : ATy.of Tryz.prog 137 = some ⟨1, 8, [.nilFunc], .other⟩ := by kernel_rfl
theorem ty138 : ATy.of Tryz.prog 138 = some ⟨6, 48, [.int .i64 0, .int .i64 0, .int .i64 0, .int .i64 0, .int .i64 0, .int .i64 0], .array 2 119⟩ := by kernel_rfl
theorem ty139 : ATy.of Tryz.prog 139 = some ⟨1, 8, [.nilFunc], .other⟩ := by kernel_rfl
theorem ty140 : ATy.of Tryz.prog 140 = some ⟨4, 40, [.pointer none, .pointer none, .pointer none, .string ⟨#[]⟩], .struct [(0, 17), (1, 17), (2, 17), (3, 9)]⟩ := by kernel_rfl
theorem ty141 : ATy.of Tryz.prog 141 = some ⟨4, 40, [.pointer none, .pointer none, .pointer none, .string ⟨#[]⟩], .struct [(0, 17), (1, 17), (2, 17), (3, 9)]⟩ := by kernel_rfl
theorem ty142 : ATy.of Tryz.prog 142 = some ⟨0, 0, [], .array 0 16⟩ := by kernel_rfl
theorem ty143 : ATy.of Tryz.prog 143 = some ⟨0, 0, [], .struct [(0, 142)]⟩ := by kernel_rfl
theorem ty144 : ATy.of Tryz.prog 144 = some ⟨0, 0, [], .struct [(0, 142)]⟩ := by kernel_rfl
theorem ty145 : ATy.of Tryz.prog 145 = some ⟨1, 8, [.nilFunc], .other⟩ := by kernel_rfl
theorem ty146 : ATy.of Tryz.prog 146 = some ⟨1, 4, [.int .u32 0], .int⟩ := by kernel_rfl
theorem ty147 : ATy.of Tryz.prog 147 = some ⟨1, 1, [.int .u8 0], .int⟩ := by kernel_rfl
theorem ty148 : ATy.of Tryz.prog 148 = some ⟨1, 1, [.int .u8 0], .int⟩ := by kernel_rfl
theorem ty149 : ATy.of Tryz.prog 149 = some ⟨1, 8, [.nilFunc], .other⟩ := by kernel_rfl
theorem ty150 : ATy.of Tryz.prog 150 = some ⟨1, 8, [.pointer none], .other⟩ := by kernel_rfl
theorem ty151 : ATy.of Tryz.prog 151 = some ⟨1, 4, [.int .i32 0], .int⟩ := by kernel_rfl
theorem ty152 : ATy.of Tryz.prog 152 = some ⟨1, 4, [.int .i32 0], .int⟩ := by kernel_rfl
theorem ty153 : ATy.of Tryz.prog 153 = some ⟨11, 48, [.int .u64 0, .int .u64 0, .int .u32 0, .int .u8 0, .int .u8 0, .int .u8 0, .int .u8 0, .nilFunc, .pointer none, .int .i32 0, .int .i32 0], .struct [(0, 12), (1, 12), (2, 146), (3, 147), (4, 5), (5, 5), (6, 148), (7, 149), (8, 150), (9, 151), (10, 152)]⟩ := by kernel_rfl
theorem ty154 : ATy.of Tryz.prog 154 = some ⟨11, 48, [.int .u64 0, .int .u64 0, .int .u32 0, .int .u8 0, .int .u8 0, .int .u8 0, .int .u8 0, .nilFunc, .pointer none, .int .i32 0, .int .i32 0], .struct [(0, 12), (1, 12), (2, 146), (3, 147), (4, 5), (5, 5), (6, 148), (7, 149), (8, 150), (9, 151), (10, 152)]⟩ := by kernel_rfl
theorem ty155 : ATy.of Tryz.prog 155 = some ⟨1, 8, [.nilFunc], .other⟩ := by kernel_rfl
theorem ty156 : ATy.of Tryz.prog 156 = some ⟨1, 8, [.pointer none], .other⟩ := by kernel_rfl
attribute [go_sem] ty1 ty2 ty3 ty4 ty5 ty6 ty7 ty8 ty9 ty10 ty11 ty12 ty13 ty14 ty15 ty16 ty17 ty18 ty19 ty20 ty21 ty22 ty23 ty24 ty25 ty26 ty27 ty28 ty29 ty30 ty31 ty32 ty33 ty34 ty35 ty36 ty37 ty39 ty41 ty42 ty43 ty44 ty45 ty46 ty47 ty48 ty49 ty50 ty51 ty52 ty53 ty54 ty55 ty56 ty57 ty58 ty59 ty60 ty61 ty62 ty63 ty64 ty65 ty66 ty67 ty68 ty69 ty70 ty71 ty72 ty73 ty74 ty75 ty76 ty77 ty78 ty79 ty80 ty81 ty83 ty84 ty86 ty87 ty89 ty90 ty91 ty92 ty93 ty94 ty96 ty97 ty98 ty99 ty100 ty101 ty102 ty103 ty104 ty105 ty106 ty107 ty108 ty109 ty110 ty111 ty113 ty114 ty115 ty116 ty117 ty118 ty119 ty121 ty122 ty123 ty124 ty125 ty126 ty127 ty128 ty129 ty130 ty131 ty132 ty133 ty134 ty135 ty136 ty137 ty138 ty139 ty140 ty141 ty142 ty143 ty144 ty145 ty146 ty147 ty148 ty149 ty150 ty151 ty152 ty153 ty154 ty155 ty156 
attribute [go_sem] Tryz.underlying1 Tryz.underlying2 Tryz.underlying3 Tryz.underlying4 Tryz.underlying5 Tryz.underlying6 Tryz.underlying7 Tryz.underlying8 Tryz.underlying9 Tryz.underlying10 Tryz.underlying11 Tryz.underlying12 Tryz.underlying13 Tryz.underlying14 Tryz.underlying15 Tryz.underlying16 Tryz.underlying17 Tryz.underlying18 Tryz.underlying19 Tryz.underlying20 Tryz.underlying21 Tryz.underlying22 Tryz.underlying23 Tryz.underlying24 Tryz.underlying25 Tryz.underlying26 Tryz.underlying27 Tryz.underlying28 Tryz.underlying29 Tryz.underlying30 Tryz.underlying31 Tryz.underlying32 Tryz.underlying33 Tryz.underlying34 Tryz.underlying35 Tryz.underlying36 Tryz.underlying37 Tryz.underlying39 Tryz.underlying41 Tryz.underlying42 Tryz.underlying43 Tryz.underlying44 Tryz.underlying45 Tryz.underlying46 Tryz.underlying47 Tryz.underlying48 Tryz.underlying49 Tryz.underlying50 Tryz.underlying51 Tryz.underlying52 Tryz.underlying53 Tryz.underlying54 Tryz.underlying55 Tryz.underlying56 Tryz.underlying57 Tryz.underlying58 Tryz.underlying59 Tryz.underlying60 Tryz.underlying61 Tryz.underlying62 Tryz.underlying63 Tryz.underlying64 Tryz.underlying65 Tryz.underlying66 Tryz.underlying67 Tryz.underlying68 Tryz.underlying69 Tryz.underlying70 Tryz.underlying71 Tryz.underlying72 Tryz.underlying73 Tryz.underlying74 Tryz.underlying75 Tryz.underlying76 Tryz.underlying77 Tryz.underlying78 Tryz.underlying79 Tryz.underlying80 Tryz.underlying81 Tryz.underlying83 Tryz.underlying84 Tryz.underlying86 Tryz.underlying87 Tryz.underlying89 Tryz.underlying90 Tryz.underlying91 Tryz.underlying92 Tryz.underlying93 Tryz.underlying94 Tryz.underlying96 Tryz.underlying97 Tryz.underlying98 Tryz.underlying99 Tryz.underlying100 Tryz.underlying101 Tryz.underlying102 Tryz.underlying103 Tryz.underlying104 Tryz.underlying105 Tryz.underlying106 Tryz.underlying107 Tryz.underlying108 Tryz.underlying109 Tryz.underlying110 Tryz.underlying111 Tryz.underlying113 Tryz.underlying114 Tryz.underlying115 Tryz.underlying116 Tryz.underlying117 Tryz.underlying118 Tryz.underlying119 Tryz.underlying121 Tryz.underlying122 Tryz.underlying123 Tryz.underlying124 Tryz.underlying125 Tryz.underlying126 Tryz.underlying127 Tryz.underlying128 Tryz.underlying129 Tryz.underlying130 Tryz.underlying131 Tryz.underlying132 Tryz.underlying133 Tryz.underlying134 Tryz.underlying135 Tryz.underlying136 Tryz.underlying137 Tryz.underlying138 Tryz.underlying139 Tryz.underlying140 Tryz.underlying141 Tryz.underlying142 Tryz.underlying143 Tryz.underlying144 Tryz.underlying145 Tryz.underlying146 Tryz.underlying147 Tryz.underlying148 Tryz.underlying149 Tryz.underlying150 Tryz.underlying151 Tryz.underlying152 Tryz.underlying153 Tryz.underlying154 Tryz.underlying155 Tryz.underlying156 
end Go.Proofs.YtpfjlifneibhfaaGreat.Y
namespace Go.Proofs.YtpfjlifneibhfaaGreat.AL
variable [G : GTab]
/-- What may be done to the memory before a step may be done before a call. -/
theorem ARun.wk {P : Program} {f : FuncId} {args args' : List AV} {H H' : List AObj} {out : AOut} (hw : Wk H args H args' H') (h : ARun P f args' H' out) : ARun P f args H out := by
  refine ⟨h.call, fun w B S vs hr ha => ?_⟩
  obtain ⟨B1, S1, s⟩ := hw w B S [] ⟨vs.toArray, []⟩ w B S ⟨hr, Step.refl _ _ _ _, hr, by simpa using ha, rfl⟩
  refine (h.run w B1 S1 vs s.hrel (by simpa using s.tmps)).mono ?_
  rintro e w' ⟨B', S', st, hr', he⟩
  exact ⟨B', S', s.step.trans st, hr', he⟩
theorem ARun.ghostO {P : Program} {f : FuncId} {args : List AV} {H : List AObj} {out : AOut} (id j : Nat) (t : TypeId) {sz : Nat} {tt : TypeId} {cs : List AV} (hsz : 0 < sz) (hid : H[id]? = some (.cells tt cs)) (hj : cs[j]? = some (.pv (.sc (.slice none 0 0))))
    (h : ARun P f args (H.set id (.cells tt (cs.set j (.os H.length 0 0 0))) ++ [.arr t sz []]) out) : ARun P f args H out :=
  ARun.wk (Wk.ghostO id j t hsz hid hj) h
end Go.Proofs.YtpfjlifneibhfaaGreat.AL
namespace Go.Proofs.YtpfjlifneibhfaaGreat.AL
variable [G : GTab]
/-- Who reads such a slot comes before who writes it. -/
def lateOk (l : List Oper) (tab : List (List Nat)) (sm : List Tmp) : Bool :=
  (List.range l.length).all fun i => match l[i]? with
    | some o => (opTmps l o).all fun t => !(sm.contains t) || (List.range l.length).all fun j => opDst l j != some t || j == i || (tab.getD j []).contains i
    | none => true
theorem lateOk_spec {l : List Oper} {tab : List (List Nat)} {sm : List Tmp} (h : lateOk l tab sm = true) : ∀ (i : Nat) (o : Oper), l[i]? = some o → ∀ t ∈ opTmps l o, t ∈ sm → ∀ j, j < l.length → opDst l j = some t → j = i ∨ i ∈ tab.getD j [] := by
  intro i o ho t ht hs j hj hd
  unfold lateOk at h
  simp only [List.all_eq_true, List.mem_range] at h
  have := h i (List.getElem?_eq_some_iff.1 ho).1
  rw [ho] at this
  simp only [List.all_eq_true, Bool.or_eq_true, Bool.not_eq_true', List.contains_iff_mem, List.mem_range, bne_iff_ne, beq_iff_eq] at this
  rcases this t ht with h1 | h1
  · have : sm.contains t = true := by simpa using hs
    rw [this] at h1; cases h1
  · rcases h1 j hj with (h2 | h2) | h2
    · exact absurd hd h2
    · exact .inl h2
    · exact .inr h2
/-- An operation comes to what is foretold: v to its slot, memory H'. -/
def OpGoodR (P : Program) (l : List Oper) (R T : List AV) (H : List AObj) (o : Oper) (H' : List AObj) : Prop :=
  match aWanted l R o with
  | some false => (∀ d, o.dst = some d → T[d]? = some (.tup [])) ∧ H' = H
  | some true => match aStep P R H o with
    | .next v H1 => (∀ d, o.dst = some d → T[d]? = some v) ∧ H' = H1
    | .run => aConcs R o = true ∧ ∃ r : Value, (∀ w, (execOp (aRho R) o).run P w = .ok (.value r) w) ∧ (∀ d, o.dst = some d → T[d]? = some (.ofV r)) ∧ H' = H
    | .enter f args => ∃ v, ARun P f args H (.ret v H') ∧ ∀ d, o.dst = some d → T[d]? = some v
    | .pan _ => False
  | none => False
/-- An operation that panics. -/
def PanGoodR (P : Program) (l : List Oper) (R T : List AV) (Q : AEx → List AV → List AObj → Prop) (H : List AObj) (o : Oper) : Prop :=
  match aWanted l R o with
  | some true => match aStep P R H o with
    | .pan x => ∀ tm', Q (.pan x) tm' H
    | .enter f args => ∃ x H', ARun P f args H (.pan x H') ∧ ∀ tm', Q (.pan x) tm' H'
    | _ => False
  | _ => False
/-- bad: the operations that panic; what stands behind them is never carried out. -/
def GoodFromR (P : Program) (l : List Oper) (R T : List AV) (Hs : List (List AObj)) (effs : List Nat) (wins : List (Nat × Nat)) (tab : List (List Nat)) (bad : List Nat) (Q : AEx → List AV → List AObj → Prop) : Nat → List Oper → Prop
  | _, [] => True
  | i, o :: rest => (if (bad.any fun b => (tab.getD i []).contains b) = true then True else if bad.contains i then
        (if effs.contains i then PanGoodR P l R T Q (Hs.getD (effs.idxOf i) []) o else ∀ j ∈ List.range' (wins.getD i (0, 0)).1 ((wins.getD i (0, 0)).2 + 1 - (wins.getD i (0, 0)).1), PanGoodR P l R T Q (Hs.getD j []) o)
      else if effs.contains i then OpGoodR P l R T (Hs.getD (effs.idxOf i) []) o (Hs.getD (effs.idxOf i + 1) []) else
      ∀ j ∈ List.range' (wins.getD i (0, 0)).1 ((wins.getD i (0, 0)).2 + 1 - (wins.getD i (0, 0)).1), OpGoodR P l R T (Hs.getD j []) o (Hs.getD j [])) ∧ GoodFromR P l R T Hs effs wins tab bad Q (i + 1) rest
theorem GoodFromR.get {P : Program} {l : List Oper} {R T : List AV} {Hs : List (List AObj)} {effs : List Nat} {wins : List (Nat × Nat)} {tab : List (List Nat)} {bad : List Nat} {Q : AEx → List AV → List AObj → Prop} : ∀ {i : Nat} {rest : List Oper}, GoodFromR P l R T Hs effs wins tab bad Q i rest →
    ∀ k o, rest[k]? = some o → (∀ b ∈ bad, b ∉ tab.getD (i + k) []) → (effs.contains (i + k) = true → if bad.contains (i + k) then PanGoodR P l R T Q (Hs.getD (effs.idxOf (i + k)) []) o else OpGoodR P l R T (Hs.getD (effs.idxOf (i + k)) []) o (Hs.getD (effs.idxOf (i + k) + 1) [])) ∧
      (effs.contains (i + k) = false → ∀ j, (wins.getD (i + k) (0, 0)).1 ≤ j → j ≤ (wins.getD (i + k) (0, 0)).2 → if bad.contains (i + k) then PanGoodR P l R T Q (Hs.getD j []) o else OpGoodR P l R T (Hs.getD j []) o (Hs.getD j []))
  | i, [], _, k, o, h, _ => by simp at h
  | i, x :: rest, g, k, o, h, hb => by
    obtain ⟨g1, g2⟩ := g
    cases k with
    | zero =>
      simp only [List.getElem?_cons_zero, Option.some.injEq] at h
      subst h
      simp only [Nat.add_zero] at hb ⊢
      rw [if_neg (by simp only [List.any_eq_true, List.contains_iff_mem, not_exists, not_and]; exact hb)] at g1
      constructor
      · intro hc
        split
        · rename_i hbc; rw [if_pos hbc, if_pos hc] at g1; exact g1
        · rename_i hbc; rw [if_neg hbc, if_pos hc] at g1; exact g1
      · intro hc j h1 h2
        have hm : j ∈ List.range' (wins.getD i (0, 0)).1 ((wins.getD i (0, 0)).2 + 1 - (wins.getD i (0, 0)).1) := by rw [List.mem_range'_1]; omega
        split
        · rename_i hbc; rw [if_pos hbc, if_neg (by rw [hc]; simp)] at g1; exact g1 j hm
        · rename_i hbc; rw [if_neg hbc, if_neg (by rw [hc]; simp)] at g1; exact g1 j hm
    | succ k =>
      simp only [List.getElem?_cons_succ] at h
      have := g2.get k o h (by rw [show i + 1 + k = i + (k + 1) by omega]; exact hb)
      rw [show i + 1 + k = i + (k + 1) by omega] at this
      exact this
section
variable {P : Program} {l : List Oper} {tab : List (List Nat)} {effs : List Nat} {wins : List (Nat × Nat)} {bad : List Nat} {T tm0 : List AV} {Hs : List (List AObj)}
  {w0 : World} {B0 : BMap} {S0 : Nat → Prop} {H0 : List AObj} {D : List Deferred} {Q : AEx → List AV → List AObj → Prop}
theorem opgood_opR {sm : List Tmp} {R : List AV} (hlate : lateOk l tab sm = true) (hR1 : ∀ t ∈ sm, R[t]? = tm0[t]?) (hR2 : ∀ t, t ∉ sm → R[t]? = T[t]?) {tm : List AV} {listed : Array Bool} {j : Nat} (hk : DOk l tab effs wins sm) (inv : DInv l tab effs T tm0 listed j tm) {i : Nat} {o : Oper} (hi : l[i]? = some o)
    (hnot : ¬ Lst listed i) (hanc : ∀ k ∈ tab.getD i [], Lst listed k) (hT : ∀ s, (∀ i, i < l.length → opDst l i ≠ some s) → T[s]? = tm0[s]?) :
    (∀ x ∈ o.op.operands, aev tm x = aev R x) ∧ aWanted l tm o = aWanted l R o := by
  have slot : ∀ t ∈ opTmps l o, tm[t]? = R[t]? := by
    intro t ht
    have hil : i < l.length := (List.getElem?_eq_some_iff.1 hi).1
    by_cases hs : t ∈ sm
    · rw [hR1 t hs]
      refine inv.rest t (fun k hk' hd' => ?_)
      have hlt : k < l.length := by
        unfold opDst at hd'
        cases hx : l[k]? with
        | none => rw [hx] at hd'; cases hd'
        | some o' => exact (List.getElem?_eq_some_iff.1 hx).1
      rcases lateOk_spec hlate i o hi t ht hs k hlt hd' with he | hm
      · subst he; exact hnot hk'
      · exact hnot (inv.closed k hk' i hm)
    · rw [hR2 t hs]
      by_cases hw : ∃ k, k < l.length ∧ opDst l k = some t
      · obtain ⟨k, hk1, hk2⟩ := hw
        rcases hk.tmps i o hi t ht k hk1 hk2 with hm | hm
        · exact inv.done k t (hanc k hm) hk2
        · exact absurd hm hs
      · have h1 : ∀ k, k < l.length → opDst l k ≠ some t := fun k hk1 hk2 => hw ⟨k, hk1, hk2⟩
        rw [hT t h1]
        refine inv.rest t (fun k _ hk2 => ?_)
        have : k < l.length := by
          unfold opDst at hk2
          cases hx : l[k]? with
          | none => rw [hx] at hk2; cases hk2
          | some o' => exact (List.getElem?_eq_some_iff.1 hx).1
        exact h1 k this hk2
  constructor
  · intro x hx
    refine aev_congr (fun t e => slot t ?_)
    subst e
    unfold opTmps
    exact List.mem_append_left _ (List.mem_filterMap.2 ⟨.tmp t, by simpa using hx, rfl⟩)
  · unfold aWanted
    cases hg : o.guard with
    | none => rfl
    | some jw =>
      obtain ⟨g, want⟩ := jw
      simp only
      cases hd : (l[g]?).bind (·.dst) with
      | none => rfl
      | some d =>
        simp only
        rw [slot d ?_]
        unfold opTmps
        refine List.mem_append_right _ ?_
        rw [hg]
        simp only [opDst, hd, Option.toList_some, List.mem_singleton]
theorem draw_auxR {sm : List Tmp} {R : List AV} (hlate : lateOk l tab sm = true) (hR1 : ∀ t ∈ sm, R[t]? = tm0[t]?) (hR2 : ∀ t, t ∉ sm → R[t]? = T[t]?) (hk : DOk l tab effs wins sm) (hbad : ∀ b ∈ bad, b < l.length) (good : GoodFromR P l R T Hs effs wins tab bad Q 0 l) (hT : ∀ s, (∀ i, i < l.length → opDst l i ≠ some s) → T[s]? = tm0[s]?) (hTl : T.length = tm0.length)
    (hQ : bad = [] → Q .normal T (Hs.getD effs.length [])) : ∀ (fuel : Nat) (listed : Array Bool) (j : Nat) (tm : List AV) (a : Act) (w : World) (B : BMap) (S : Nat → Prop),
      DInv l tab effs T tm0 listed j tm → (∀ b ∈ bad, ¬ Lst listed b) → Sim w0 B0 S0 H0 D tm (Hs.getD j []) a w B S → ((List.range l.length).filter fun i => !listed.getD i false).length ≤ fuel →
      wpAny P .any l.toArray (LiftQ w0 B0 S0 H0 D Q) fuel listed a w := by
  have atEnd : ∀ (listed : Array Bool) (j : Nat) (tm : List AV) (a : Act) (w : World) (B : BMap) (S : Nat → Prop), DInv l tab effs T tm0 listed j tm → (∀ b ∈ bad, ¬ Lst listed b) → Sim w0 B0 S0 H0 D tm (Hs.getD j []) a w B S →
      (∀ i, i < l.length → Lst listed i) → LiftQ w0 B0 S0 H0 D Q .normal a w := by
    intro listed j tm a w B S inv hnb s hall
    have hbn : bad = [] := by
      cases hb : bad with
      | nil => rfl
      | cons b bs => exact absurd (hall b (hbad b (by rw [hb]; simp))) (hnb b (by rw [hb]; simp))
    have hj : j = effs.length := by
      rcases Nat.lt_or_ge j effs.length with h | h
      · exfalso
        have hm : effs[j] ∈ effs := List.getElem_mem h
        have := (inv.ef _ hm).1 (hall _ (hk.lt _ hm))
        obtain ⟨k, hk1, hk2⟩ := List.mem_take_iff_getElem.1 this
        have := (List.getElem_inj hk.nodup).1 hk2
        omega
      · have := inv.jle; omega
    subst hj
    have htm : tm = T := by
      apply List.ext_getElem?
      intro d
      by_cases hw : ∃ k, k < l.length ∧ opDst l k = some d
      · obtain ⟨k, hk1, hk2⟩ := hw
        exact inv.done k d (hall k hk1) hk2
      · rw [hT d (fun k hk1 hk2 => hw ⟨k, hk1, hk2⟩)]
        refine inv.rest d (fun k _ hk2 => ?_)
        have : k < l.length := by
          unfold opDst at hk2
          cases hx : l[k]? with
          | none => rw [hx] at hk2; cases hk2
          | some o' => exact (List.getElem?_eq_some_iff.1 hx).1
        exact hw ⟨k, this, hk2⟩
    subst htm
    exact ⟨.normal, tm, _, B, S, hQ hbn, s, trivial⟩
  intro fuel
  induction fuel with
  | zero =>
    intro listed j tm a w B S inv hnb s hf
    have hall : ∀ i, i < l.length → Lst listed i := by
      intro i hi
      have hnil : ((List.range l.length).filter fun i => !listed.getD i false) = [] := List.eq_nil_of_length_eq_zero (by omega)
      rw [List.filter_eq_nil_iff] at hnil
      have := hnil i (by simpa using hi)
      simpa [Lst] using this
    refine ⟨?_, atEnd listed j tm a w B S inv hnb s hall⟩
    cases hr : Region.ready .any l.toArray listed with
    | nil => rfl
    | cons i rs =>
      exfalso
      have hm : i ∈ Region.ready .any l.toArray listed := by rw [hr]; simp
      obtain ⟨h1, h2, _⟩ := mem_ready' hm
      have := hall i h2
      unfold Lst at this
      simp only [Array.getD_eq_getD_getElem?] at this h1
      have hlt : i < listed.size := by rw [inv.size]; exact h2
      simp only [Array.getElem?_eq_getElem hlt, Option.getD_some] at this h1
      rw [this] at h1; cases h1
  | succ fuel ih =>
    intro listed j tm a w B S inv hnb s hf
    refine ⟨fun hr => atEnd listed j tm a w B S inv hnb s (ready_of hk inv.size hr), ?_⟩
    intro i hi
    obtain ⟨hun, hil, haft⟩ := mem_ready' hi
    have hlt : i < listed.size := by rw [inv.size]; exact hil
    have hnot : ¬ Lst listed i := by
      unfold Lst
      simp only [Array.getD_eq_getD_getElem?, Array.getElem?_eq_getElem hlt, Option.getD_some] at hun ⊢
      rw [hun]; simp
    obtain ⟨o, ho⟩ : ∃ o, l[i]? = some o := ⟨l[i], List.getElem?_eq_getElem hil⟩
    have hanc : ∀ k ∈ tab.getD i [], Lst listed k := by
      intro k hk'
      obtain ⟨e, he, hke⟩ := hk.anc i hil k hk'
      rcases hke with rfl | hke
      · exact haft k he
      · exact inv.closed e (haft e he) k hke
    obtain ⟨hev, hwant⟩ := opgood_opR hlate hR1 hR2 hk inv ho hnot hanc hT
    -- the next stage
    have hnanc : ∀ b ∈ bad, b ∉ tab.getD (0 + i) [] := by intro b hb hm; rw [Nat.zero_add] at hm; exact hnb b hb (hanc b hm)
    have hoi : (l.toArray)[i]? = some o := by simpa using ho
    by_cases hib : bad.contains i = true
    · have hpan : PanGoodR P l R T Q (Hs.getD j []) o := by
        obtain ⟨g1, g2⟩ := good.get i o ho hnanc
        simp only [Nat.zero_add, hib, if_true] at g1 g2
        by_cases hie : i ∈ effs
        · have hidx : effs.idxOf i < effs.length := List.idxOf_lt_length_of_mem hie
          have hix : effs[effs.idxOf i] = i := List.getElem_idxOf hidx
          have hle : effs.idxOf i ≤ j := by
            rcases Nat.lt_or_ge j (effs.idxOf i) with h | h
            · exfalso
              have hjl : j < effs.length := by omega
              have hm : effs[j] ∈ effs.take (effs.idxOf i) := List.mem_take_iff_getElem.2 ⟨j, by omega, rfl⟩
              have h1 := hanc _ (hk.ord i hil hie _ hm)
              have h2 := (inv.ef _ (List.getElem_mem hjl)).1 h1
              obtain ⟨k, hk1, hk2⟩ := List.mem_take_iff_getElem.1 h2
              have := (List.getElem_inj hk.nodup).1 hk2
              omega
            · exact h
          have hge : j ≤ effs.idxOf i := by
            rcases Nat.lt_or_ge (effs.idxOf i) j with h | h
            · exfalso
              exact hnot ((inv.ef i hie).2 (List.mem_take_iff_getElem.2 ⟨effs.idxOf i, by omega, hix⟩))
            · exact h
          have hje : j = effs.idxOf i := by omega
          have := g1 (by simpa using hie)
          rw [← hje] at this; exact this
        · refine g2 (by simpa using hie) j ?_ ?_
          · rw [hk.win i hil]
            refine filter_len hk.nodup (fun e he hc => ?_)
            exact (inv.ef e he).1 (hanc e (by simpa using hc))
          · rw [hk.win i hil]
            rcases Nat.lt_or_ge (winHi tab effs i) j with h | h
            · exfalso
              obtain ⟨e, he, hpe⟩ := takeWhile_len (p := fun e => !(tab.getD e []).contains i) effs j h inv.jle
              have hee : e ∈ effs := List.mem_of_mem_take he
              have h1 := (inv.ef e hee).2 he
              have h2 : i ∈ tab.getD e [] := by simpa using hpe
              exact hnot (inv.closed e h1 i h2)
            · exact h
      unfold wpOp
      rw [hoi]
      simp only
      unfold PanGoodR at hpan
      cases hw : aWanted l R o with
      | none => rw [hw] at hpan; exact hpan.elim
      | some b =>
        rw [hw] at hpan
        rw [s.wanted (hwant.trans hw)]
        cases b with
        | false => exact hpan.elim
        | true =>
          simp only at hpan
          simp only [if_true]
          refine .inl ?_
          have hstep : aStep P tm (Hs.getD j []) o = aStep P R (Hs.getD j []) o := aStep_congr hev
          cases hs : aStep P R (Hs.getD j []) o with
          | next v H1 => rw [hs] at hpan; exact hpan.elim
          | run => rw [hs] at hpan; exact hpan.elim
          | pan x =>
            rw [hs] at hpan
            simp only at hpan
            obtain ⟨v, hrun, hx⟩ := step_pan s (hstep.trans hs)
            unfold Oper.wp
            rw [hrun]
            exact ⟨.pan x, tm, _, B, S, hpan tm, s, v, rfl, hx⟩
          | enter f args =>
            rw [hs] at hpan
            simp only at hpan
            obtain ⟨x, H', ⟨hcall, hrunA⟩, hq⟩ := hpan
            obtain ⟨vs, hrun, hargs⟩ := enter_args s (hstep.trans hs) hcall
            unfold Oper.wp
            rw [hrun]
            refine (hrunA w B S vs s.hrel hargs).mono (fun e w' hew => ?_)
            obtain ⟨B', S', st, hr, he⟩ := hew
            cases e with
            | returned v => exact he.elim
            | panicked c => exact ⟨.pan x, tm, H', B', S', hq tm, s.mono st hr, he⟩
            | outgrown => exact he.elim
    obtain ⟨j', hj', hgood, hef'⟩ : ∃ j', j' ≤ effs.length ∧ OpGoodR P l R T (Hs.getD j []) o (Hs.getD j' []) ∧ (∀ e ∈ effs, (e = i ∨ Lst listed e ↔ e ∈ effs.take j')) := by
      obtain ⟨g1, g2⟩ := good.get i o ho hnanc
      simp only [Nat.zero_add] at g1 g2
      simp only [if_neg hib] at g1 g2
      by_cases hie : i ∈ effs
      · have hidx : effs.idxOf i < effs.length := List.idxOf_lt_length_of_mem hie
        have hix : effs[effs.idxOf i] = i := List.getElem_idxOf hidx
        have hle : effs.idxOf i ≤ j := by
          rcases Nat.lt_or_ge j (effs.idxOf i) with h | h
          · exfalso
            have hjl : j < effs.length := by omega
            have hm : effs[j] ∈ effs.take (effs.idxOf i) := List.mem_take_iff_getElem.2 ⟨j, by omega, rfl⟩
            have h1 := hanc _ (hk.ord i hil hie _ hm)
            have h2 := (inv.ef _ (List.getElem_mem hjl)).1 h1
            obtain ⟨k, hk1, hk2⟩ := List.mem_take_iff_getElem.1 h2
            have := (List.getElem_inj hk.nodup).1 hk2
            omega
          · exact h
        have hge : j ≤ effs.idxOf i := by
          rcases Nat.lt_or_ge (effs.idxOf i) j with h | h
          · exfalso
            exact hnot ((inv.ef i hie).2 (List.mem_take_iff_getElem.2 ⟨effs.idxOf i, by omega, hix⟩))
          · exact h
        have hje : j = effs.idxOf i := by omega
        refine ⟨j + 1, by omega, ?_, ?_⟩
        · have := g1 (by simpa using hie)
          rw [← hje] at this; exact this
        · intro e he
          have hjl : j < effs.length := by omega
          have htake : effs.take (j + 1) = effs.take j ++ [i] := by
            rw [List.take_succ_eq_append_getElem hjl]
            congr 2
            have : effs[j] = effs[effs.idxOf i] := by congr 1
            rw [this, hix]
          rw [htake, List.mem_append, List.mem_singleton, inv.ef e he, Or.comm]
      · refine ⟨j, inv.jle, ?_, ?_⟩
        · refine g2 (by simpa using hie) j ?_ ?_
          · rw [hk.win i hil]
            refine filter_len hk.nodup (fun e he hc => ?_)
            exact (inv.ef e he).1 (hanc e (by simpa using hc))
          · rw [hk.win i hil]
            rcases Nat.lt_or_ge (winHi tab effs i) j with h | h
            · exfalso
              obtain ⟨e, he, hpe⟩ := takeWhile_len (p := fun e => !(tab.getD e []).contains i) effs j h inv.jle
              have hee : e ∈ effs := List.mem_of_mem_take he
              have h1 := (inv.ef e hee).2 he
              have h2 : i ∈ tab.getD e [] := by simpa using hpe
              exact hnot (inv.closed e h1 i h2)
            · exact h
        · intro e he
          rw [← inv.ef e he]
          constructor
          · rintro (rfl | h)
            · exact absurd he hie
            · exact h
          · exact .inr
    -- the state behind it
    have next : ∀ (v : AV), (∀ d, o.dst = some d → T[d]? = some v) → DInv l tab effs T tm0 (listed.setIfInBounds i true) j' (aput tm o.dst v) := by
      intro v hv
      have hdi : opDst l i = o.dst := by unfold opDst; rw [ho]; rfl
      refine ⟨by simpa using inv.size, ?_, ?_, hj', ?_, ?_, ?_⟩
      · intro k hk1 k' hk2
        rw [lst_set hlt] at hk1 ⊢
        rcases hk1 with rfl | hk1
        · exact .inr (hanc k' hk2)
        · exact .inr (inv.closed k hk1 k' hk2)
      · intro e he
        rw [lst_set hlt]
        exact hef' e he
      · cases o.dst <;> simp [aput, inv.len]
      · intro k d hk1 hd
        rw [lst_set hlt] at hk1
        cases hod : o.dst with
        | none =>
          simp only [aput]
          rcases hk1 with rfl | hk1
          · rw [hdi, hod] at hd; cases hd
          · exact inv.done k d hk1 hd
        | some d' =>
          simp only [aput]
          by_cases e : d' = d
          · subst e
            have hTd := hv d' hod
            rw [hTd]
            have : d' < tm.length := by rw [inv.len, ← hTl]; exact (List.getElem?_eq_some_iff.1 hTd).1
            simp [this]
          · rw [List.getElem?_set, if_neg e]
            rcases hk1 with rfl | hk1
            · rw [hdi, hod] at hd; simp only [Option.some.injEq] at hd; exact absurd hd e
            · exact inv.done k d hk1 hd
      · intro d hd
        have h1 : o.dst ≠ some d := by
          have := hd i ((lst_set hlt).2 (.inl rfl))
          rwa [hdi] at this
        have h2 : ∀ k, Lst listed k → opDst l k ≠ some d := fun k hk' => hd k ((lst_set hlt).2 (.inr hk'))
        cases hod : o.dst with
        | none => simp only [aput]; exact inv.rest d h2
        | some d' =>
          simp only [aput]
          rw [List.getElem?_set, if_neg (fun e => h1 (by rw [hod, e]))]
          exact inv.rest d h2
    have hfuel : ((List.range l.length).filter fun k => !(listed.setIfInBounds i true).getD k false).length ≤ fuel := by
      have hsub : ((List.range l.length).filter fun k => !(listed.setIfInBounds i true).getD k false) = ((List.range l.length).filter fun k => !listed.getD k false).filter (fun k => k != i) := by
        rw [List.filter_filter]
        apply List.filter_congr
        intro k hk'
        have := lst_set (listed := listed) (i := i) (k := k) hlt
        unfold Lst at this
        by_cases e : k = i
        · subst e
          have h := this.2 (.inl rfl)
          rw [h]; simp
        · have h : (listed.setIfInBounds i true).getD k false = listed.getD k false := by
            rw [Bool.eq_iff_iff, this]
            constructor
            · rintro (h | h)
              · exact absurd h e
              · exact h
            · exact .inr
          rw [h]; simp [e]
      rw [hsub]
      have hmem : i ∈ (List.range l.length).filter fun k => !listed.getD k false := by
        rw [List.mem_filter]
        refine ⟨by simpa using hil, ?_⟩
        unfold Lst at hnot
        simpa using hnot
      have hlt' : (((List.range l.length).filter fun k => !listed.getD k false).filter (fun k => k != i)).length < ((List.range l.length).filter fun k => !listed.getD k false).length := by
        apply List.length_filter_lt_length_iff_exists.2
        exact ⟨i, hmem, by simp⟩
      omega
    have go : ∀ (v : AV) (x : Value) (w' : World) (B' : BMap) (S' : Nat → Prop), (∀ d, o.dst = some d → T[d]? = some v) → Sim w0 B0 S0 H0 D tm (Hs.getD j' []) a w' B' S' → ARel w' B' S' (Hs.getD j' []) v x →
        wpAny P .any l.toArray (LiftQ w0 B0 S0 H0 D Q) fuel (listed.setIfInBounds i true) (a.put o.dst x) w' := by
      intro v x w' B' S' hv s' hx
      refine ih _ j' _ _ _ _ _ (next v hv) (fun b hb hl => ?_) (s'.put o.dst hx) hfuel
      rw [lst_set hlt] at hl
      rcases hl with rfl | hl
      · exact hib (by simpa using hb)
      · exact hnb b hb hl
    unfold wpOp
    rw [hoi]
    simp only
    unfold OpGoodR at hgood
    cases hw : aWanted l R o with
    | none => rw [hw] at hgood; exact hgood.elim
    | some b =>
      rw [hw] at hgood
      rw [s.wanted (hwant.trans hw)]
      cases b with
      | false =>
        simp only at hgood
        simp only [Bool.false_eq_true, if_false]
        obtain ⟨h1, h2⟩ := hgood
        exact go (.tup []) undef w B S h1 (by rw [h2]; exact s) (by rw [h2]; exact undef_rel)
      | true =>
        simp only at hgood
        simp only [if_true]
        refine .inl ?_
        have hstep : aStep P tm (Hs.getD j []) o = aStep P R (Hs.getD j []) o := aStep_congr hev
        cases hs : aStep P R (Hs.getD j []) o with
        | next v H1 =>
          rw [hs] at hgood
          simp only at hgood
          obtain ⟨h1, h2⟩ := hgood
          obtain ⟨r, w', B', S', hrun, st, hr, hv⟩ := step_next s.hrel s.ev (hstep.trans hs)
          rw [← h2] at st hr hv
          have s' := s.mono st hr
          unfold Oper.wp
          rcases hrun with hrun | ⟨hrun, rfl⟩
          · rw [hrun]; exact go v r w' B' S' h1 s' hv
          · rw [hrun]; exact go v undef w' B' S' h1 s' hv
        | pan x => rw [hs] at hgood; exact hgood.elim
        | enter f args =>
          rw [hs] at hgood
          simp only at hgood
          obtain ⟨v, ⟨hcall, hrunA⟩, h1⟩ := hgood
          obtain ⟨vs, hrun, hargs⟩ := enter_args s (hstep.trans hs) hcall
          unfold Oper.wp
          rw [hrun]
          refine (hrunA w B S vs s.hrel hargs).mono (fun e w' hew => ?_)
          obtain ⟨B', S', st, hr, he⟩ := hew
          cases e with
          | returned x => exact go v x w' B' S' h1 (s.mono st hr) he
          | panicked c => exact he.elim
          | outgrown => exact he.elim
        | run =>
          rw [hs] at hgood
          simp only at hgood
          obtain ⟨hc, r, hrun, h1, h2⟩ := hgood
          have hsel := hk.sel i o ho
          rcases aConcs_congr (tm := tm) (tm' := R) hev with ⟨e1, e2⟩ | e
          · have heq : execOp a.eval o = execOp (aRho tm) o := run_eq s (by rw [e1]; exact hc) hsel
            unfold Oper.wp
            rw [heq, e2, hrun w]
            exact go (.ofV r) r w B S h1 (by rw [h2]; exact s) (by rw [h2]; exact .ofV r)
          · rw [hsel] at e; cases e
end
section
variable {P : Program} {w0 : World} {B0 : BMap} {S0 : Nat → Prop} {H0 : List AObj} {D : List Deferred} {Q : AEx → List AV → List AObj → Prop} {tm : List AV} {H : List AObj} {a : Act} {w : World} {B : BMap} {S : Nat → Prop}
theorem awp_drawBR {id : Nat} {l : List Oper} {R T : List AV} (effs bad : List Nat) (wins : List (Nat × Nat)) (Hs : List (List AObj)) (hm : P.follows .mixedOrders = true)
    (sm : List Tmp) (hok : drawOk l (ancTab l) effs wins sm = true) (hlate : lateOk l (ancTab l) sm = true) (hR1 : ∀ t ∈ sm, R[t]? = tm[t]?) (hR2 : ∀ t, t ∉ sm → R[t]? = T[t]?) (hbad : ∀ b ∈ bad, b < l.length)
    (hlen : T.length = tm.length) (hne : ∀ s, (∀ o ∈ l, o.dst ≠ some s) → T[s]? = tm[s]?)
    (hH : Hs.getD 0 [] = H) (good : GoodFromR P l R T Hs effs wins (ancTab l) bad Q 0 l)
    (hQ : bad = [] → Q .normal T (Hs.getD effs.length [])) : AWP P H0 (.region id l.toArray true) Q tm H := by
  intro w0 B0 S0 D a w B S s
  subst hH
  have hk := drawOk_spec hok
  refine wp_region_any hm ?_
  have hT : ∀ s, (∀ i, i < l.length → opDst l i ≠ some s) → T[s]? = tm[s]? := by
    intro s hs
    refine hne s (fun o ho hd => ?_)
    obtain ⟨i, hi, rfl⟩ := List.mem_iff_getElem.1 ho
    exact hs i hi (by unfold opDst; rw [List.getElem?_eq_getElem hi]; exact hd)
  have hnone : ∀ i, ¬ Lst (Array.replicate l.length false) i := by
    intro i hi
    unfold Lst at hi
    simp only [Array.getD_eq_getD_getElem?, Array.getElem?_replicate] at hi
    split at hi <;> simp at hi
  have := draw_auxR (P := P) (w0 := w0) (B0 := B0) (S0 := S0) (H0 := H0) (D := D) (Q := Q) (tm0 := tm) (bad := bad) (sm := sm) hlate hR1 hR2 hk hbad good hT hlen hQ l.length (Array.replicate l.length false) 0 tm a { w with drawn := w.drawn + 1 } B S
    ⟨by simp, fun i hi => absurd hi (hnone i), fun e _ => by simp [hnone e], Nat.zero_le _, rfl, fun i d hi => absurd hi (hnone i), fun d _ => rfl⟩ (fun b _ => hnone b) s.drawn
    (by exact Nat.le_trans (List.length_filter_le _ _) (by simp))
  simpa using this
def OGXR (P : Program) (R T : List AV) (o : Oper) (H H' : List AObj) : Prop := aConcs R o = true ∧ ∃ r : Value, (∀ w, (execOp (aRho R) o).run P w = .ok (.value r) w) ∧ DstIs T o.dst (.ofV r) ∧ H' = H
def OGRR (P : Program) (R T : List AV) (o : Oper) (H H' : List AObj) : ARes → Prop
  | .next v H1 => DstIs T o.dst v ∧ H' = H1
  | .run => OGXR P R T o H H'
  | .enter f args => OGE P T o.dst H H' f args
  | .pan _ => False
def OGWR (P : Program) (R T : List AV) (o : Oper) (H H' : List AObj) : Option Bool → Prop
  | some true => OGRR P R T o H H' (aStep P R H o)
  | some false => DstIs T o.dst (.tup []) ∧ H' = H
  | none => False
theorem opGoodR_of {l : List Oper} {R T : List AV} {H H' : List AObj} {o : Oper} (h : OGWR P R T o H H' (aWanted l R o)) : OpGoodR P l R T H o H' := by
  unfold OpGoodR
  cases hw : aWanted l R o with
  | none => rw [hw] at h; exact h
  | some b =>
    rw [hw] at h
    cases b with
    | false => exact ⟨h.1.all, h.2⟩
    | true =>
      simp only [OGWR] at h ⊢
      cases hs : aStep P R H o with
      | next v H1 => rw [hs] at h; exact ⟨h.1.all, h.2⟩
      | run => rw [hs] at h; obtain ⟨h1, r, h2, h3, h4⟩ := h; exact ⟨h1, r, h2, h3.all, h4⟩
      | enter f args => rw [hs] at h; obtain ⟨v, h1, h2⟩ := h; exact ⟨v, h1, h2.all⟩
      | pan x => rw [hs] at h; exact h
theorem panGoodR_of {l : List Oper} {R T : List AV} {H : List AObj} {o : Oper} (h : PGW P R Q H o (aWanted l R o)) : PanGoodR P l R T Q H o := by
  unfold PanGoodR
  cases hw : aWanted l R o with
  | none => rw [hw] at h; exact h
  | some b =>
    rw [hw] at h
    cases b with
    | false => exact h
    | true =>
      simp only [PGW] at h ⊢
      cases hs : aStep P R H o with
      | enter f args => rw [hs] at h; exact h
      | pan x => rw [hs] at h; exact h
      | _ => rw [hs] at h; exact h
def GoodPR (P : Program) (l : List Oper) (R T : List AV) (Q : AEx → List AV → List AObj → Prop) (Hs : List (List AObj)) : List OpPlan → List Oper → Prop
  | .skip :: ps, _ :: rest => GoodPR P l R T Q Hs ps rest
  | .pan js :: ps, o :: rest => AllAt Hs (fun H => PGW P R Q H o (aWanted l R o)) js ∧ GoodPR P l R T Q Hs ps rest
  | .eff j :: ps, o :: rest => OGWR P R T o (Hs.getD j []) (Hs.getD (j + 1) []) (aWanted l R o) ∧ GoodPR P l R T Q Hs ps rest
  | .win js :: ps, o :: rest => AllAt Hs (fun H => OGWR P R T o H H (aWanted l R o)) js ∧ GoodPR P l R T Q Hs ps rest
  | _, _ => True
theorem GoodPR.from {l : List Oper} {R T : List AV} {Hs : List (List AObj)} {tab : List (List Nat)} {effs : List Nat} {wins : List (Nat × Nat)} {bad : List Nat} : ∀ {rest : List Oper} {i : Nat},
    GoodPR P l R T Q Hs (planFrom tab effs wins bad i rest.length) rest → GoodFromR P l R T Hs effs wins tab bad Q i rest
  | [], i, _ => trivial
  | o :: rest, i, h => by
    simp only [List.length_cons, planFrom] at h
    unfold GoodFromR
    unfold planAt at h
    split at h
    · rename_i hb
      exact ⟨by rw [if_pos hb]; trivial, GoodPR.from h⟩
    · rename_i hb
      rw [if_neg hb]
      split at h
      · rename_i hc
        rw [if_pos hc]
        refine ⟨?_, GoodPR.from h.2⟩
        split
        · rename_i he
          rw [if_pos he] at h
          exact panGoodR_of h.1.1
        · rename_i he
          rw [if_neg he] at h
          exact fun j hj => panGoodR_of (h.1.get j hj)
      · rename_i hc
        rw [if_neg hc]
        split at h
        · rename_i he
          rw [if_pos he]
          exact ⟨opGoodR_of h.1, GoodPR.from h.2⟩
        · rename_i he
          rw [if_neg he]
          exact ⟨fun j hj => opGoodR_of (h.1.get j hj), GoodPR.from h.2⟩
/-- The slots of a list as they were. -/
def backS : List Tmp → List AV → List AV → List AV
  | [], _, T => T
  | t :: r, tm, T => backS r tm (T.set t ((tm[t]?).getD .any))
theorem backS_ne : ∀ (sm : List Tmp) (tm T : List AV) (t : Tmp), t ∉ sm → (backS sm tm T)[t]? = T[t]?
  | [], _, _, _, _ => rfl
  | s :: r, tm, T, t, h => by
    simp only [List.mem_cons, not_or] at h
    rw [backS, backS_ne r tm _ t h.2, List.getElem?_set, if_neg (fun e => h.1 e.symm)]
theorem backS_get : ∀ (sm : List Tmp) (tm T : List AV), T.length = tm.length → ∀ t ∈ sm, (backS sm tm T)[t]? = tm[t]?
  | [], _, _, _, t, h => by cases h
  | s :: r, tm, T, hl, t, h => by
    by_cases hr : t ∈ r
    · rw [backS]; exact backS_get r tm _ (by simpa using hl) t hr
    · rcases List.mem_cons.1 h with rfl | h
      · rw [backS, backS_ne r tm _ t hr]
        rcases Nat.lt_or_ge t tm.length with hlt | hge
        · rw [List.getElem?_set, if_pos rfl, if_pos (by omega), List.getElem?_eq_getElem hlt]; rfl
        · rw [List.getElem?_eq_none (by simp; omega), List.getElem?_eq_none hge]
      · exact absurd h hr
/-- The same, as a rule. -/
theorem awp_drawnR_k {id : Nat} {l : List Oper} (effs bad : List Nat) (plan : List OpPlan) (ne : Nat) (sm : List Tmp) (hm : P.follows .mixedOrders = true)
    (hok : (drawOk l (ancTab l) effs (winsOf l effs) sm && lateOk l (ancTab l) sm && bad.all (· < l.length) && decide (planOf l effs bad = plan) && effs.length == ne) = true)
    (h : ∀ (Kn : List AV → List AObj → Prop) (Kp : AV → List AV → List AObj → Prop), (∀ tm H, Q .normal tm H → Kn tm H) → (∀ x tm H, Q (.pan x) tm H → Kp x tm H) →
      AWSeq P l (fun T H' Hs => Hs.getD 0 [] = H ∧ GoodPR P l (backS sm tm T) T (AEx.two Kn Kp) Hs plan l ∧ (bad = [] → Kn T (Hs.getD ne []))) plan l tm H [H]) : AWP P H0 (.region id l.toArray true) Q tm H := by
  simp only [Bool.and_eq_true, List.all_eq_true, decide_eq_true_eq, beq_iff_eq] at hok
  obtain ⟨⟨⟨⟨hok, hlate⟩, hbad⟩, rfl⟩, rfl⟩ := hok
  refine awp_mono (Q := AEx.two (Q .normal) (fun x => Q (.pan x))) ?_ ?_
  · obtain ⟨T, H', Hs, h1, h2, h3, h4, h5⟩ := (h (Q .normal) (fun x => Q (.pan x)) (fun _ _ h => h) (fun _ _ _ h => h)).out
    exact awp_drawBR effs bad _ Hs hm sm hok hlate (backS_get sm tm T h1) (fun t ht => backS_ne sm tm T t ht) hbad h1 h2 h3 (GoodPR.from h4) h5
  · intro e tm H hq
    cases e <;> first | exact hq | exact hq.elim
end
attribute [go_sem] GoodPR OGRR OGWR backS
end Go.Proofs.YtpfjlifneibhfaaGreat.AL
namespace Go.Proofs.YtpfjlifneibhfaaGreat.AL
abbrev PV.i (n : Int) : PV := .sc (.int .i64 n)
abbrev AV.i (n : Int) : AV := .pv (.sc (.int .i64 n))
abbrev AV.b (t : Bool) : AV := .pv (.sc (.bool t))
inductive Ex where
  | mk (op n unit : Int) (kids : List Ex)
def Ex.op : Ex → Int | .mk a _ _ _ => a
def Ex.n : Ex → Int | .mk _ a _ _ => a
def Ex.unit : Ex → Int | .mk _ _ a _ => a
def Ex.kids : Ex → List Ex | .mk _ _ _ a => a
mutual
def encE : Ex → List PV
  | .mk op n u kids => [.i op, .i n, .i u, .rs 4 (encEs kids)]
def encEs : List Ex → List (List PV)
  | [] => []
  | e :: es => encE e :: encEs es
end
theorem encEs_map : ∀ l : List Ex, encEs l = l.map encE
  | [] => by simp [encEs]
  | e :: es => by simp [encEs, encEs_map es]
theorem encE_eq (e : Ex) : encE e = [.i e.op, .i e.n, .i e.unit, .rs 4 (e.kids.map encE)] := by
  cases e; simp [encE, encEs_map, Ex.op, Ex.n, Ex.unit, Ex.kids]
abbrev cE (e : Ex) : List PV := [.i e.op, .i e.n, .i e.unit, .rs 4 (e.kids.map encE)]
theorem encE_len (e : Ex) : (encE e).length = 4 := by rw [encE_eq]; rfl
inductive St where
  | mk (kind var rel : Int) (a b : Ex) (thn els : List St)
def St.kind : St → Int | .mk x _ _ _ _ _ _ => x
def St.var : St → Int | .mk _ x _ _ _ _ _ => x
def St.rel : St → Int | .mk _ _ x _ _ _ _ => x
def St.a : St → Ex | .mk _ _ _ x _ _ _ => x
def St.b : St → Ex | .mk _ _ _ _ x _ _ => x
def St.thn : St → List St | .mk _ _ _ _ _ x _ => x
def St.els : St → List St | .mk _ _ _ _ _ _ x => x
mutual
def encS : St → List PV
  | .mk k v r a b t e => [.i k, .i v, .i r, .i a.op, .i a.n, .i a.unit, .rs 4 (a.kids.map encE), .i b.op, .i b.n, .i b.unit, .rs 4 (b.kids.map encE), .rs 13 (encSs t), .rs 13 (encSs e)]
def encSs : List St → List (List PV)
  | [] => []
  | e :: es => encS e :: encSs es
end
theorem encSs_map : ∀ l : List St, encSs l = l.map encS
  | [] => by simp [encSs]
  | e :: es => by simp [encSs, encSs_map es]
theorem encS_eq (s : St) : encS s = [.i s.kind, .i s.var, .i s.rel, .i s.a.op, .i s.a.n, .i s.a.unit, .rs 4 (s.a.kids.map encE), .i s.b.op, .i s.b.n, .i s.b.unit, .rs 4 (s.b.kids.map encE), .rs 13 (s.thn.map encS), .rs 13 (s.els.map encS)] := by
  cases s; simp [encS, encSs_map, St.kind, St.var, St.rel, St.a, St.b, St.thn, St.els]
abbrev cS (s : St) : List PV := [.i s.kind, .i s.var, .i s.rel, .i s.a.op, .i s.a.n, .i s.a.unit, .rs 4 (s.a.kids.map encE), .i s.b.op, .i s.b.n, .i s.b.unit, .rs 4 (s.b.kids.map encE), .rs 13 (s.thn.map encS), .rs 13 (s.els.map encS)]
theorem encS_len (s : St) : (encS s).length = 13 := by rw [encS_eq]; rfl
structure Vr where
  name : ByteArray
  unit : Int
  low : Int
  high : Int
  init : Int
def encV (v : Vr) : List PV := [.sc (.string v.name), .i v.unit, .i v.low, .i v.high, .i v.init]
abbrev cV (v : Vr) : List PV := [.sc (.string v.name), .i v.unit, .i v.low, .i v.high, .i v.init]
theorem encV_eq (v : Vr) : encV v = cV v := rfl
structure Prg where
  name : ByteArray
  vars : List Vr
  on0 : List St
  on1 : List St
  on2 : List St
  on3 : List St
  on4 : List St
  window : Int
  pace : Int
def encP (p : Prg) : List PV := [.sc (.string p.name), .rs 5 (p.vars.map encV), .rs 13 (p.on0.map encS), .rs 13 (p.on1.map encS), .rs 13 (p.on2.map encS), .rs 13 (p.on3.map encS), .rs 13 (p.on4.map encS), .i p.window, .i p.pace]
abbrev cP (p : Prg) : List PV := [.sc (.string p.name), .rs 5 (p.vars.map encV), .rs 13 (p.on0.map encS), .rs 13 (p.on1.map encS), .rs 13 (p.on2.map encS), .rs 13 (p.on3.map encS), .rs 13 (p.on4.map encS), .i p.window, .i p.pace]
/-- An aggregate of pure values. -/
abbrev AV.ag (ps : List PV) : AV := .agg (ps.map AV.pv)
abbrev AV.rs (sz : Nat) (rows : List (List PV)) : AV := .pv (.rs sz rows)
theorem drop_cons {α : Type} {l : List α} {i : Nat} {x : α} {xs : List α} (h : l.drop i = x :: xs) : l[i]? = some x ∧ (i : Int) < (l.length : Int) ∧ l.drop (i + 1) = xs ∧ x ∈ l := by
  have h1 : l[i]? = some x := by
    have := congrArg (fun m => m[0]?) h
    simpa using this
  have h2 := (List.getElem?_eq_some_iff.1 h1).1
  refine ⟨h1, by omega, ?_, List.mem_of_getElem? h1⟩
  rw [← List.drop_drop, h]; rfl
theorem drop_nil {α : Type} {l : List α} {i : Nat} (h : l.drop i = []) : ¬ (i : Int) < (l.length : Int) := by
  have := List.drop_eq_nil_iff.1 h
  omega
end Go.Proofs.YtpfjlifneibhfaaGreat.AL
namespace Go.Proofs.YtpfjlifneibhfaaGreat.AL
theorem Ex.ind {p : Ex → Prop} (h : ∀ e, (∀ k ∈ e.kids, p k) → p e) (e : Ex) : p e :=
  Ex.rec (motive_1 := p) (motive_2 := fun l => ∀ k ∈ l, p k) (fun op n u kids ih => h _ ih) (fun k hk => by cases hk)
    (fun e es h1 h2 k hk => by rcases List.mem_cons.1 hk with rfl | hk; exact h1; exact h2 k hk) e
theorem St.ind {p : St → Prop} (h : ∀ s, (∀ k ∈ s.thn, p k) → (∀ k ∈ s.els, p k) → p s) (s : St) : p s :=
  St.rec (motive_1 := p) (motive_2 := fun l => ∀ k ∈ l, p k) (fun _ _ _ _ _ t e ih1 ih2 => h _ ih1 ih2) (fun k hk => by cases hk)
    (fun e es h1 h2 k hk => by rcases List.mem_cons.1 hk with rfl | hk; exact h1; exact h2 k hk) s
mutual
def size : Ex → Int → Int
  | .mk _ _ _ kids, b => sizeL kids b 1
def sizeL : List Ex → Int → Int → Int
  | [], _, n => n
  | e :: es, b, n => if n ≤ b then sizeL es b (n + size e (b - n)) else n
end
theorem size_eq (e : Ex) (b : Int) : size e b = sizeL e.kids b 1 := by cases e; simp [size, Ex.kids]
theorem size_bd (e : Ex) : ∀ b, 1 ≤ size e b ∧ (size e b ≤ 1 ∨ size e b ≤ b + 1) := by
  induction e using Ex.ind with
  | h e ih =>
    intro b
    rw [size_eq]
    have key : ∀ l : List Ex, (∀ k ∈ l, ∀ b, 1 ≤ size k b ∧ (size k b ≤ 1 ∨ size k b ≤ b + 1)) → ∀ n, 1 ≤ n → n ≤ sizeL l b n ∧ (sizeL l b n ≤ n ∨ sizeL l b n ≤ b + 1) := by
      intro l
      induction l with
      | nil => intro _ n hn; simp [sizeL]
      | cons x xs ihl =>
        intro h n hn
        simp only [sizeL]
        split
        · have h1 := h x (by simp) (b - n)
          have h2 := ihl (fun k hk => h k (by simp [hk])) (n + size x (b - n)) (by omega)
          omega
        · omega
    have := key e.kids ih 1 (by omega)
    omega
-- All nodes of an expression.
mutual
def nodes : Ex → Nat
  | .mk _ _ _ kids => 1 + nodesL kids
def nodesL : List Ex → Nat
  | [] => 0
  | e :: es => nodes e + nodesL es
end
theorem nodes_eq (e : Ex) : nodes e = 1 + nodesL e.kids := by cases e; simp [nodes, Ex.kids]
theorem size_nodes (e : Ex) : ∀ b : Int, ((nodes e : Int) ≤ b ∨ (nodes e = 1) → size e b = nodes e) ∧ (b < nodes e → b < size e b ∨ b < 1) := by
  induction e using Ex.ind with
  | h e ih =>
    intro b
    rw [size_eq, nodes_eq]
    have key : ∀ l : List Ex, (∀ k ∈ l, ∀ b : Int, ((nodes k : Int) ≤ b ∨ (nodes k = 1) → size k b = nodes k) ∧ (b < nodes k → b < size k b ∨ b < 1)) → ∀ n : Int, 1 ≤ n →
        ((n + nodesL l ≤ b → sizeL l b n = n + nodesL l) ∧ (b < n + nodesL l → n ≤ b → b < sizeL l b n) ∧ (b < n → sizeL l b n = n)) := by
      intro l
      induction l with
      | nil => intro _ n hn; exact ⟨fun _ => by simp [sizeL, nodesL], fun h1 h2 => by simp only [nodesL] at h1; omega, fun _ => by simp [sizeL]⟩
      | cons x xs ihl =>
        intro h n hn
        have h1 := h x (by simp) (b - n)
        have h2 := ihl (fun k hk => h k (by simp [hk])) (n + size x (b - n)) (by have := size_bd x (b - n); omega)
        have h3 := size_bd x (b - n)
        have h4 : 1 ≤ nodes x := by rw [nodes_eq]; omega
        simp only [sizeL, nodesL]
        split
        · refine ⟨?_, ?_, ?_⟩
          · intro hle
            have e1 := h1.1 (by omega)
            rw [h2.1 (by omega)]; omega
          · intro hlt hnb
            by_cases hx : (nodes x : Int) ≤ b - n
            · have e1 := h1.1 (.inl hx)
              by_cases hy : n + size x (b - n) ≤ b
              · exact h2.2.1 (by omega) hy
              · rw [h2.2.2 (by omega)]; omega
            · have := h1.2 (by omega)
              rw [h2.2.2 (by omega)]; omega
          · omega
        · refine ⟨?_, ?_, ?_⟩ <;> intros <;> omega
    have hk := key e.kids ih 1 (by omega)
    cases hl : e.kids with
    | nil => simp only [sizeL, nodesL]; omega
    | cons x xs =>
      rw [hl] at hk
      have h4 : 1 ≤ nodesL (x :: xs) := by simp only [nodesL]; have : 1 ≤ nodes x := by rw [nodes_eq]; omega
                                           omega
      refine ⟨fun h => ?_, fun h => ?_⟩
      · rw [hk.1 (by omega)]; omega
      · by_cases hb : 1 ≤ b
        · exact .inl (hk.2.1 (by omega) hb)
        · exact .inr (by omega)
/-- The bound of 'Size'. -/
theorem size_gt (e : Ex) (b : Int) (hb : 1 ≤ b) : b < size e b ↔ b < nodes e := by
  have := size_nodes e b
  constructor
  · intro h
    rcases Int.lt_or_le b (nodes e) with h' | h'
    · exact h'
    · rw [this.1 (.inl h')] at h; omega
  · intro h; have := this.2 h; omega
end Go.Proofs.YtpfjlifneibhfaaGreat.AL
namespace Go.Proofs.YtpfjlifneibhfaaGreat.AL
mutual
def cntE : Ex → Int → Int
  | .mk _ _ _ kids, b => cntEL kids b 0
def cntEL : List Ex → Int → Int → Int
  | [], _, n => n
  | e :: es, b, n => if n > b then n else cntEL es b (n + (1 + cntE e (b - n)))
end
theorem cntE_eq (e : Ex) (b : Int) : cntE e b = cntEL e.kids b 0 := by cases e; simp [cntE, Ex.kids]
theorem cntE_bd (e : Ex) : ∀ b, 0 ≤ cntE e b ∧ cntE e b + 1 ≤ nodes e := by
  induction e using Ex.ind with
  | h e ih =>
    intro b
    rw [cntE_eq, nodes_eq]
    have key : ∀ l : List Ex, (∀ k ∈ l, ∀ b, 0 ≤ cntE k b ∧ cntE k b + 1 ≤ nodes k) → ∀ n, n ≤ cntEL l b n ∧ cntEL l b n ≤ n + nodesL l := by
      intro l
      induction l with
      | nil => intro _ n; simp [cntEL, nodesL]
      | cons x xs ihl =>
        intro h n
        simp only [cntEL, nodesL]
        have h1 := h x (by simp) (b - n)
        split
        · omega
        · have h2 := ihl (fun k hk => h k (by simp [hk])) (n + (1 + cntE x (b - n)))
          omega
    have := key e.kids ih 0
    omega
theorem cntEL_bd (l : List Ex) (b : Int) : ∀ n, n ≤ cntEL l b n ∧ cntEL l b n ≤ n + nodesL l := by
  induction l with
  | nil => intro n; simp [cntEL, nodesL]
  | cons x xs ihl =>
    intro n
    simp only [cntEL, nodesL]
    have h1 := cntE_bd x (b - n)
    split
    · omega
    · have h2 := ihl (n + (1 + cntE x (b - n)))
      omega
/-- Count and nodes. -/
theorem cntE_nodes (e : Ex) : ∀ b : Int, 0 ≤ b → ((nodes e : Int) ≤ b + 1 → cntE e b + 1 = nodes e) ∧ (b + 1 < nodes e → b < cntE e b) := by
  induction e using Ex.ind with
  | h e ih =>
    intro b hb
    rw [cntE_eq, nodes_eq]
    have key : ∀ l : List Ex, (∀ k ∈ l, ∀ b : Int, 0 ≤ b → ((nodes k : Int) ≤ b + 1 → cntE k b + 1 = nodes k) ∧ (b + 1 < nodes k → b < cntE k b)) → ∀ n : Int,
        (n + nodesL l ≤ b → cntEL l b n = n + nodesL l) ∧ (b < n + nodesL l → b < cntEL l b n) := by
      intro l
      induction l with
      | nil => intro _ n; simp only [cntEL, nodesL]; omega
      | cons x xs ihl =>
        intro h n
        have h4 := cntE_bd x (b - n)
        simp only [cntEL, nodesL]
        split
        · omega
        · have h1 := h x (by simp) (b - n) (by omega)
          have h2 := ihl (fun k hk => h k (by simp [hk])) (n + (1 + cntE x (b - n)))
          have h3 := cntEL_bd xs b (n + (1 + cntE x (b - n)))
          constructor
          · intro hle
            have := h1.1 (by omega)
            rw [h2.1 (by omega)]; omega
          · intro hlt
            by_cases hx : (nodes x : Int) ≤ b - n + 1
            · have e1 := h1.1 hx
              exact h2.2 (by omega)
            · have := h1.2 (by omega)
              omega
    have hk := key e.kids ih 0
    constructor
    · intro h; rw [hk.1 (by omega)]; omega
    · intro h; exact hk.2 (by omega)
theorem cnt1 (e : Ex) (b : Int) (hb : 0 ≤ b) : cntEL [e] b 0 > b ↔ b < nodes e := by
  have h1 := cntE_nodes e b hb
  have h2 := cntE_bd e b
  simp only [cntEL, Int.sub_zero]
  rw [if_neg (by omega)]
  omega
theorem nodesL_mem {l : List Ex} {k : Ex} (h : k ∈ l) : nodesL k.kids + 1 ≤ nodesL l := by
  induction l with
  | nil => cases h
  | cons x xs ih =>
    simp only [nodesL]
    rcases List.mem_cons.1 h with rfl | h
    · rw [nodes_eq]; omega
    · have := ih h; omega
theorem nodes_mem {l : List Ex} {k : Ex} (h : k ∈ l) : nodes k ≤ nodesL l := by
  induction l with
  | nil => cases h
  | cons x xs ih =>
    simp only [nodesL]
    rcases List.mem_cons.1 h with rfl | h
    · omega
    · have := ih h; omega
theorem len_nodesL (l : List Ex) : l.length ≤ nodesL l := by
  induction l with
  | nil => simp
  | cons x xs ih => simp only [List.length_cons, nodesL]; rw [nodes_eq]; omega
/-! ### statements -/
def innerL (s : St) : List St := if s.kind = 2 then s.thn ++ s.els else []
mutual
def many : St → Nat
  | .mk k _ _ _ _ t e => 1 + (if k = 2 then manyL t + manyL e else 0)
def manyL : List St → Nat
  | [] => 0
  | s :: ss => many s + manyL ss
end
theorem many_eq (s : St) : many s = 1 + (if s.kind = 2 then manyL s.thn + manyL s.els else 0) := by cases s; rw [many]; rfl
theorem manyL_append (l m : List St) : manyL (l ++ m) = manyL l + manyL m := by
  induction l with
  | nil => simp [manyL]
  | cons x xs ih => simp only [List.cons_append, manyL, ih]; omega
theorem many_inner (s : St) : many s = 1 + manyL (innerL s) := by
  rw [many_eq]; unfold innerL; split
  · rw [manyL_append]
  · simp [manyL]
mutual
def cntS : St → Int → Int
  | .mk k _ _ _ _ t e, b => if k = 2 then cntSL e b (cntSL t b 0) else 0
def cntSL : List St → Int → Int → Int
  | [], _, n => n
  | s :: ss, b, n => if n > b then n else cntSL ss b (n + (1 + cntS s (b - n)))
end
theorem cntSL_big (l : List St) (b n : Int) (h : n > b) : cntSL l b n = n := by
  cases l with
  | nil => simp [cntSL]
  | cons x xs => simp [cntSL, h]
theorem cntSL_append (l m : List St) (b : Int) : ∀ n, cntSL (l ++ m) b n = cntSL m b (cntSL l b n) := by
  induction l with
  | nil => intro n; simp [cntSL]
  | cons x xs ih =>
    intro n
    simp only [List.cons_append, cntSL]
    split
    · rename_i h; rw [cntSL_big m b n h]
    · rw [ih]
theorem cntS_eq (s : St) (b : Int) : cntS s b = cntSL (innerL s) b 0 := by
  have : cntS s b = if s.kind = 2 then cntSL s.els b (cntSL s.thn b 0) else 0 := by cases s; rw [cntS]; rfl
  rw [this]; unfold innerL
  split
  · rw [cntSL_append]
  · simp [cntSL]
theorem St.indI {p : St → Prop} (h : ∀ s, (∀ k ∈ innerL s, p k) → p s) (s : St) : p s := by
  induction s using St.ind with
  | h s h1 h2 =>
    refine h s (fun k hk => ?_)
    unfold innerL at hk
    split at hk
    · rcases List.mem_append.1 hk with hk | hk
      · exact h1 k hk
      · exact h2 k hk
    · cases hk
theorem cntS_bd (s : St) : ∀ b, 0 ≤ cntS s b ∧ cntS s b + 1 ≤ many s := by
  induction s using St.indI with
  | h s ih =>
    intro b
    rw [cntS_eq, many_inner]
    have key : ∀ l : List St, (∀ k ∈ l, ∀ b, 0 ≤ cntS k b ∧ cntS k b + 1 ≤ many k) → ∀ n, n ≤ cntSL l b n ∧ cntSL l b n ≤ n + manyL l := by
      intro l
      induction l with
      | nil => intro _ n; simp [cntSL, manyL]
      | cons x xs ihl =>
        intro h n
        simp only [cntSL, manyL]
        have h1 := h x (by simp) (b - n)
        split
        · omega
        · have h2 := ihl (fun k hk => h k (by simp [hk])) (n + (1 + cntS x (b - n)))
          omega
    have := key (innerL s) ih 0
    omega
theorem cntSL_bd (l : List St) (b : Int) : ∀ n, n ≤ cntSL l b n ∧ cntSL l b n ≤ n + manyL l := by
  induction l with
  | nil => intro n; simp [cntSL, manyL]
  | cons x xs ihl =>
    intro n
    simp only [cntSL, manyL]
    have h1 := cntS_bd x (b - n)
    split
    · omega
    · have h2 := ihl (n + (1 + cntS x (b - n)))
      omega
theorem cntSL_many (l : List St) (b : Int) (hb : 0 ≤ b) : ((manyL l : Int) ≤ b → cntSL l b 0 = manyL l) ∧ (b < manyL l → b < cntSL l b 0) := by
  have keyS : ∀ s : St, ∀ b : Int, 0 ≤ b → ((many s : Int) ≤ b + 1 → cntS s b + 1 = many s) ∧ (b + 1 < many s → b < cntS s b) := by
    intro s
    induction s using St.indI with
    | h s ih =>
      intro b hb
      rw [cntS_eq, many_inner]
      have key : ∀ l : List St, (∀ k ∈ l, ∀ b : Int, 0 ≤ b → ((many k : Int) ≤ b + 1 → cntS k b + 1 = many k) ∧ (b + 1 < many k → b < cntS k b)) → ∀ n : Int,
          (n + manyL l ≤ b → cntSL l b n = n + manyL l) ∧ (b < n + manyL l → b < cntSL l b n) := by
        intro l
        induction l with
        | nil => intro _ n; simp only [cntSL, manyL]; omega
        | cons x xs ihl =>
          intro h n
          have h4 := cntS_bd x (b - n)
          simp only [cntSL, manyL]
          split
          · omega
          · have h1 := h x (by simp) (b - n) (by omega)
            have h2 := ihl (fun k hk => h k (by simp [hk])) (n + (1 + cntS x (b - n)))
            have h3 := cntSL_bd xs b (n + (1 + cntS x (b - n)))
            constructor
            · intro hle
              have := h1.1 (by omega)
              rw [h2.1 (by omega)]; omega
            · intro hlt
              by_cases hx : (many x : Int) ≤ b - n + 1
              · have e1 := h1.1 hx
                exact h2.2 (by omega)
              · have := h1.2 (by omega)
                omega
      have hk := key (innerL s) ih 0
      constructor
      · intro h; rw [hk.1 (by omega)]; omega
      · intro h; exact hk.2 (by omega)
  have key : ∀ (l : List St) (n : Int), (n + manyL l ≤ b → cntSL l b n = n + manyL l) ∧ (b < n + manyL l → b < cntSL l b n) := by
    intro l
    induction l with
    | nil => intro n; simp only [cntSL, manyL]; omega
    | cons x xs ihl =>
      intro n
      have h4 := cntS_bd x (b - n)
      simp only [cntSL, manyL]
      split
      · omega
      · have h1 := keyS x (b - n) (by omega)
        have h2 := ihl (n + (1 + cntS x (b - n)))
        have h3 := cntSL_bd xs b (n + (1 + cntS x (b - n)))
        constructor
        · intro hle
          have := h1.1 (by omega)
          rw [h2.1 (by omega)]; omega
        · intro hlt
          by_cases hx : (many x : Int) ≤ b - n + 1
          · have e1 := h1.1 hx
            exact h2.2 (by omega)
          · have := h1.2 (by omega)
            omega
  have := key l 0
  omega
theorem manyL_mem {l : List St} {k : St} (h : k ∈ l) : manyL (innerL k) + 1 ≤ manyL l := by
  induction l with
  | nil => cases h
  | cons x xs ih =>
    simp only [manyL]
    rcases List.mem_cons.1 h with rfl | h
    · rw [many_inner]; omega
    · have := ih h; omega
theorem len_manyL (l : List St) : l.length ≤ manyL l := by
  induction l with
  | nil => simp
  | cons x xs ih => simp only [List.length_cons, manyL]; rw [many_inner]; omega
end Go.Proofs.YtpfjlifneibhfaaGreat.AL
namespace Go.Proofs.YtpfjlifneibhfaaGreat.AL
structure Un where
  p : Int
  b : Int
  t : Int
  deriving DecidableEq
abbrev cU (u : Un) : List PV := [.i u.p, .i u.b, .i u.t]
def ofK (k : Int) : Option Un :=
  if k = 0 then some ⟨0, 0, 0⟩ else if k = 1 then some ⟨1, 0, 0⟩ else if k = 2 then some ⟨0, 1, 0⟩ else if k = 3 then some ⟨0, 0, 1⟩ else if k = 4 then some ⟨0, 1, -1⟩ else none
def Un.ok (u : Un) : Prop := -4 ≤ u.p ∧ u.p ≤ 4 ∧ -4 ≤ u.b ∧ u.b ≤ 4 ∧ -4 ≤ u.t ∧ u.t ≤ 4
instance (u : Un) : Decidable u.ok := by unfold Un.ok; infer_instance
theorem ofK_ok {k : Int} {u : Un} (h : ofK k = some u) : u.ok := by
  unfold ofK at h
  unfold Un.ok
  repeat' split at h
  all_goals first
    | (simp only [Option.some.injEq] at h; subst h; simp only; omega)
    | cases h
theorem ofK_range {k : Int} : (ofK k).isSome = true ↔ 0 ≤ k ∧ k ≤ 4 := by
  unfold ofK
  repeat' split
  all_goals simp
  all_goals omega
def Un.add (a b : Un) (s : Int) : Un := ⟨a.p + s * b.p, a.b + s * b.b, a.t + s * b.t⟩
def comb (op : Int) (a b : Un) : Except Int Un :=
  if op = 6 then (if (a.add b 1).ok then .ok (a.add b 1) else .error 13)
  else if op = 7 ∨ op = 8 then (if (a.add b (-1)).ok then .ok (a.add b (-1)) else .error 13)
  else if a = b then .ok a else .error 13
def leafS (vs : List Un) (op n u : Int) : Except Int Un :=
  if op = 1 then (if 0 ≤ n ∧ n ≤ 1000000000 then (match ofK u with | some k => .ok k | none => .error 1) else .error 1)
  else if op = 2 then (if 0 ≤ n then (match vs[n.toNat]? with | some k => .ok k | none => .error 1) else .error 1)
  else if op = 3 then (if n = 0 ∨ n = 3 then .ok ⟨1, 0, 0⟩ else if n = 1 then .ok ⟨0, 0, 1⟩ else if n = 2 then .ok ⟨0, 1, 0⟩ else .error 1)
  else .error 1
def node (vs : List Un) (op n u : Int) (l : List Un) : Except Int Un :=
  match l with
  | [] => leafS vs op n u
  | [a, b] => if 4 ≤ op ∧ op ≤ 10 then comb op a b else .error 1
  | _ => .error 1
mutual
def inf (vs : List Un) : Ex → Except Int Un
  | .mk op n u kids => match infL vs kids with
    | .error x => .error x
    | .ok l => node vs op n u l
def infL (vs : List Un) : List Ex → Except Int (List Un)
  | [] => .ok []
  | e :: es => match inf vs e with
    | .error x => .error x
    | .ok a => match infL vs es with
      | .error x => .error x
      | .ok asx => .ok (a :: asx)
end
theorem inf_eq (vs : List Un) (e : Ex) : inf vs e = match infL vs e.kids with
    | .error x => .error x
    | .ok l => node vs e.op e.n e.unit l := by cases e; rw [inf]; rfl
def outU (t : Nat) : Except Int Un → List AObj → AOut
  | .ok u, H => .ret (.ag (cU u)) H
  | .error x, H => .pan (.sc (.iface t (.int .i64 x))) H
def pvRows (rows : List (List PV)) : List (List AV) := rows.map fun r => r.map AV.pv
theorem pvRows_len (rows : List (List PV)) : (pvRows rows).length = rows.length := by simp [pvRows]
theorem under_pvRows [GTab] {m t sz : Nat} (rows : List (List PV)) : (AObj.arr t sz (pvRows rows)).under m := by
  simp only [AObj.under, pvRows]
  intro r hr c hc
  obtain ⟨r', _, rfl⟩ := List.mem_map.1 hr
  exact under_pvs r' c hc
end Go.Proofs.YtpfjlifneibhfaaGreat.AL
namespace Go.Proofs.YtpfjlifneibhfaaGreat.AL
theorem leafS_ok {vs : List Un} (hvs : ∀ u ∈ vs, u.ok) {op n u : Int} {x : Un} (h : leafS vs op n u = .ok x) : x.ok := by
  unfold leafS at h
  split at h
  · split at h
    · split at h
      · rename_i k hk; simp only [Except.ok.injEq] at h; subst h; exact ofK_ok hk
      · cases h
    · cases h
  · split at h
    · split at h
      · split at h
        · rename_i k hk; simp only [Except.ok.injEq] at h; subst h; exact hvs _ (List.mem_of_getElem? hk)
        · cases h
      · cases h
    · split at h
      · repeat' split at h
        all_goals first
          | (simp only [Except.ok.injEq] at h; subst h; decide)
          | cases h
      · cases h
theorem comb_ok {op : Int} {a b x : Un} (ha : a.ok) (h : comb op a b = .ok x) : x.ok := by
  unfold comb at h
  repeat' split at h
  all_goals first
    | cases h; done
    | (simp only [Except.ok.injEq] at h; subst h; assumption)
theorem node_ok {vs : List Un} (hvs : ∀ u ∈ vs, u.ok) {op n u : Int} {l : List Un} (hl : ∀ v ∈ l, v.ok) {x : Un} (h : node vs op n u l = .ok x) : x.ok := by
  unfold node at h
  split at h
  · exact leafS_ok hvs h
  · split at h
    · exact comb_ok (hl _ (by simp)) h
    · cases h
  · cases h
theorem inf_ok (vs : List Un) (hvs : ∀ u ∈ vs, u.ok) (e : Ex) : ∀ u, inf vs e = .ok u → u.ok := by
  induction e using Ex.ind with
  | h e ih =>
    intro u hu
    rw [inf_eq] at hu
    have key : ∀ (l : List Ex), (∀ k ∈ l, ∀ u, inf vs k = .ok u → u.ok) → ∀ r, infL vs l = .ok r → ∀ v ∈ r, v.ok := by
      intro l
      induction l with
      | nil => intro _ r hr v hv; simp only [infL, Except.ok.injEq] at hr; subst hr; cases hv
      | cons x xs ihl =>
        intro hk r hr v hv
        simp only [infL] at hr
        split at hr
        · cases hr
        · rename_i a ha
          split at hr
          · cases hr
          · rename_i asx has
            simp only [Except.ok.injEq] at hr
            subst hr
            rcases List.mem_cons.1 hv with rfl | hv
            · exact hk x (by simp) _ ha
            · exact ihl (fun k hk' => hk k (by simp [hk'])) _ has v hv
    split at hu
    · cases hu
    · rename_i l hl
      exact node_ok hvs (key _ ih l hl) hu
end Go.Proofs.YtpfjlifneibhfaaGreat.AL
namespace Go.Proofs.YtpfjlifneibhfaaGreat.AL
def ksL : List Vr → Option (List Un)
  | [] => some []
  | v :: vs => match ofK v.unit with
    | none => none
    | some u => match ksL vs with
      | none => none
      | some us => some (u :: us)
theorem ksL_ok : ∀ {l : List Vr} {us : List Un}, ksL l = some us → ∀ u ∈ us, u.ok
  | [], us, h, u, hu => by simp only [ksL, Option.some.injEq] at h; subst h; cases hu
  | v :: vs, us, h, u, hu => by
    simp only [ksL] at h
    split at h
    · cases h
    · rename_i x hx
      split at h
      · cases h
      · rename_i ys hys
        simp only [Option.some.injEq] at h
        subst h
        rcases List.mem_cons.1 hu with rfl | hu
        · exact ofK_ok hx
        · exact ksL_ok hys u hu
theorem ksL_len : ∀ {l : List Vr} {us : List Un}, ksL l = some us → us.length = l.length
  | [], us, h => by simp only [ksL, Option.some.injEq] at h; subst h; rfl
  | v :: vs, us, h => by
    simp only [ksL] at h
    split at h
    · cases h
    · split at h
      · cases h
      · rename_i ys hys
        simp only [Option.some.injEq] at h
        subst h
        simp [ksL_len hys]
end Go.Proofs.YtpfjlifneibhfaaGreat.AL
namespace Go.Proofs.YtpfjlifneibhfaaGreat.AL
variable [G : GTab]
theorem Fin.pureC0 {H0 : List AObj} {v v2 : AV} (k : Nat) (h : Cv (v.low H0 H0.length k) v2) : Fin H0 H0 v H0 v2 := by
  have := Fin.pureC (H0 := H0) (L := []) (v := v) (v2 := v2) k (by simpa using h)
  simpa using this
end Go.Proofs.YtpfjlifneibhfaaGreat.AL
namespace Go.Proofs.YtpfjlifneibhfaaGreat.AL
variable [G : GTab]
theorem CvL.fgt : ∀ {a b : List AV}, CvL a b → Fgt a b
  | [], [], _ => trivial
  | [], _ :: _, h => h.elim
  | _ :: _, [], h => h.elim
  | _ :: _, _ :: _, h => ⟨.inr (.inr h.1), CvL.fgt h.2⟩
theorem ARun.cv {P : Program} {f : FuncId} {args args' : List AV} {H : List AObj} {out : AOut} (h : ARun P f args' H out) (ha : CvL args args') : ARun P f args H out :=
  ARun.wk (Wk.fgt ha.fgt) h
end Go.Proofs.YtpfjlifneibhfaaGreat.AL
namespace Go.Proofs.YtpfjlifneibhfaaGreat.AL
variable [G : GTab]
theorem toPV_osm {H L : List AObj} {k t sz n d m : Nat} {rows : List (List PV)} (hm : m ≤ H.length + k) (h : L[k]? = some (.arr t sz (pvRows rows))) (hn : rows.length = n) :
    (AV.os (H.length + k) 0 n n).toPV (H ++ L) m (d + 1) = some (.rs sz rows) := by
  subst hn
  simp only [AV.toPV, List.getElem?_append_right (Nat.le_add_right _ _), Nat.add_sub_cancel_left, h, pvRows_len, hm, and_self, if_true, List.drop_zero]
  rw [List.take_of_length_le (by rw [pvRows_len]; exact Nat.le_refl _)]
  unfold pvRows
  rw [toPVs_pvs]
  rfl
theorem low_osm {H L : List AObj} {k t sz n d m : Nat} {rows : List (List PV)} (hm : m ≤ H.length + k) (h : L[k]? = some (.arr t sz (pvRows rows))) (hn : rows.length = n) :
    (AV.os (H.length + k) 0 n n).low (H ++ L) m (d + 1) = .pv (.rs sz rows) := by
  rw [AV.low, if_neg (by omega), toPV_osm hm h hn]
end Go.Proofs.YtpfjlifneibhfaaGreat.AL
namespace Go.Proofs.YtpfjlifneibhfaaGreat.AL
variable [G : GTab]
section
variable {w : World} {B : BMap} {S : Nat → Prop} {H : List AObj} {i : Nat}
/-- A value behind the giving away of row i. -/
def AV.frz (i sz : Nat) (rows : List (List PV)) : AV → AV
  | .os id off len ext => if id = i then (if off = 0 ∧ len = rows.length ∧ ext = rows.length then .pv (.rs sz rows) else .any) else .os id off len ext
  | .agg cs => .agg (cs.map fun c => c.frz i sz rows)
  | .tup cs => .tup (cs.map fun c => c.frz i sz rows)
  | a => a
/-- The blocks that are written no more. -/
def Plus (B : BMap) (S : Nat → Prop) (i : Nat) : Nat → Prop := fun b => S b ∨ ∃ c, B i = some (b, c)
theorem set_dead {j : Nat} {o : AObj} (h : (H.set i .dead)[j]? = some o) : (j = i ∧ o = .dead) ∨ (j ≠ i ∧ H[j]? = some o) := by
  by_cases e : j = i
  · subst e
    rw [List.getElem?_set_self'] at h
    cases hx : H[j]? with
    | none => rw [hx] at h; cases h
    | some x => rw [hx] at h; simp at h; exact .inl ⟨rfl, h.symm⟩
  · rw [List.getElem?_set_ne (fun x => e x.symm)] at h
    exact .inr ⟨e, h⟩
theorem frz_step {t sz : Nat} {rows : List (List AV)} (hi : H[i]? = some (.arr t sz rows)) : Step w B S H w B (Plus B S i) (H.set i .dead) := by
  refine ⟨rfl, rfl, rfl, Nat.le_refl _, fun b hb => .inl hb, fun _ _ => rfl, by simp, ?_, ?_⟩
  · intro id t' sz' rows' h
    by_cases e : id = i
    · subst e
      refine .inl (fun t2 sz2 rows2 e2 => ?_)
      rcases set_dead e2 with ⟨_, h2⟩ | ⟨h2, _⟩
      · cases h2
      · exact h2 rfl
    · exact .inr ⟨rows', by rw [List.getElem?_set_ne (fun x => e x.symm)]; exact h, Nat.le_refl _, fun _ => rfl⟩
  · intro id hid hna
    refine ⟨rfl, fun t2 sz2 rows2 e2 => ?_⟩
    rcases set_dead e2 with ⟨_, h2⟩ | ⟨_, h2⟩
    · cases h2
    · exact hna _ _ _ h2
theorem frz_hrel (hr : HRel w B S H) {t sz : Nat} {rows : List (List AV)} (hi : H[i]? = some (.arr t sz rows)) : HRel w B (Plus B S i) (H.set i .dead) := by
  have st := frz_step (w := w) (B := B) (S := S) hi
  have hil := (List.getElem?_eq_some_iff.1 hi).1
  have live : ∀ j, j < (H.set i .dead).length → (H.set i .dead)[j]? ≠ some .dead → j ≠ i ∧ j < H.length ∧ H[j]? ≠ some .dead := by
    intro j hj hd
    have hx := List.getElem?_eq_getElem hj
    rcases set_dead hx with ⟨_, h2⟩ | ⟨h1, h2⟩
    · rw [hx, h2] at hd; exact absurd rfl hd
    · refine ⟨h1, by simpa using hj, ?_⟩
      rw [List.getElem?_set_ne (fun x => h1 x.symm)] at hd
      exact hd
  refine ⟨?_, ?_, ?_, ?_, hr.glob.mono (fun _ h => .inl h) (fun _ _ => rfl)⟩
  · intro id o ho
    rcases set_dead ho with ⟨_, h2⟩ | ⟨_, h2⟩
    · subst h2; trivial
    · exact (hr.obj id o h2).keep st rfl (fun _ _ _ => rfl)
  · intro a b x c d ha hb hda hdb h1 h2
    obtain ⟨_, a1, a2⟩ := live a ha hda
    obtain ⟨_, b1, b2⟩ := live b hb hdb
    exact hr.inj a b x c d a1 b1 a2 b2 h1 h2
  · intro a b c ha hd hB hS
    obtain ⟨a0, a1, a2⟩ := live a ha hd
    rcases hS with hS | ⟨c', hB'⟩
    · exact hr.sep a b c a1 a2 hB hS
    · exact a0 (hr.inj a i b c c' a1 hil a2 (by rw [hi]; simp) hB hB')
  · intro b hb
    rcases hb with hb | ⟨c', hB'⟩
    · exact hr.bound b hb
    · exact hr.lt hil (by rw [hi]; simp) hB'
/-- What is behind i may be forgotten. -/
theorem cut_step : Step w B S H w B S (H.take (i + 1) ++ (H.drop (i + 1)).map fun _ => AObj.dead) := by
  have e : H = H.take (i + 1) ++ H.drop (i + 1) := (List.take_append_drop _ _).symm
  refine ⟨rfl, rfl, rfl, Nat.le_refl _, fun b hb => hb, fun _ _ => rfl, by simp; omega, ?_, ?_⟩
  · intro id t sz rows h
    rcases Nat.lt_or_ge id (H.take (i + 1)).length with hi | hi
    · refine .inr ⟨rows, ?_, Nat.le_refl _, fun _ => rfl⟩
      rw [List.getElem?_append_left hi]
      rw [e, List.getElem?_append_left hi] at h
      exact h
    · refine .inl (fun t' sz' rows' e' => ?_)
      rcases deads_get e' with ⟨h1, _⟩ | ⟨_, h2⟩
      · omega
      · cases h2
  · intro id hid hna
    refine ⟨rfl, fun t sz rows e' => ?_⟩
    rcases deads_get e' with ⟨h1, h2⟩ | ⟨_, h2⟩
    · refine hna t sz rows ?_
      rw [e, List.getElem?_append_left h1]; exact h2
    · cases h2
theorem cut_hrel (hr : HRel w B S H) : HRel w B S (H.take (i + 1) ++ (H.drop (i + 1)).map fun _ => AObj.dead) := by
  have st := cut_step (w := w) (B := B) (S := S) (H := H) (i := i)
  have e : H = H.take (i + 1) ++ H.drop (i + 1) := (List.take_append_drop _ _).symm
  have up : ∀ {j : Nat} {o : AObj}, j < (H.take (i + 1)).length → (H.take (i + 1))[j]? = some o → H[j]? = some o := fun {j o} h1 h2 => by rw [e, List.getElem?_append_left h1]; exact h2
  have live : ∀ j, j < (H.take (i + 1) ++ (H.drop (i + 1)).map fun _ => AObj.dead).length → (H.take (i + 1) ++ (H.drop (i + 1)).map fun _ => AObj.dead)[j]? ≠ some .dead → j < H.length ∧ H[j]? ≠ some .dead := by
    intro j hj hd
    have hx := List.getElem?_eq_getElem hj
    rcases deads_get hx with ⟨h1, h2⟩ | ⟨_, h2⟩
    · have h3 := up h1 h2
      refine ⟨(List.getElem?_eq_some_iff.1 h3).1, ?_⟩
      rw [h3, ← hx]; exact hd
    · rw [hx, h2] at hd; exact absurd rfl hd
  refine ⟨?_, ?_, ?_, hr.bound, hr.glob⟩
  · intro id o ho
    rcases deads_get ho with ⟨h1, h2⟩ | ⟨_, h2⟩
    · exact (hr.obj id o (up h1 h2)).keep st rfl (fun _ _ _ => rfl)
    · subst h2; trivial
  · intro a b x c d ha hb hda hdb h1 h2
    obtain ⟨a1, a2⟩ := live a ha hda
    obtain ⟨b1, b2⟩ := live b hb hdb
    exact hr.inj a b x c d a1 b1 a2 b2 h1 h2
  · intro a b c ha hd hB
    obtain ⟨a1, a2⟩ := live a ha hd
    exact hr.sep a b c a1 a2 hB
theorem frz_os (hr : HRel w B S H) {t sz : Nat} {rows : List (List PV)} (hi : H[i]? = some (.arr t sz (pvRows rows))) {v : Value} (h : ARel w B S H (.os i 0 rows.length rows.length) v) : PRel w (Plus B S i) (.rs sz rows) v := by
  have hil := (List.getElem?_eq_some_iff.1 hi).1
  have h1 := h.mono (cut_step (w := w) (B := B) (S := S) (H := H) (i := i))
  have hr1 := cut_hrel (i := i) hr
  generalize hH : H.take (i + 1) ++ (H.drop (i + 1)).map (fun _ => AObj.dead) = H' at *
  have hi' : H'[i]? = some (.arr t sz (pvRows rows)) := by
    rw [← hH, List.getElem?_append_left (by simp; omega), List.getElem?_take, if_pos (by omega)]; exact hi
  have hil' := (List.getElem?_eq_some_iff.1 hi').1
  have h2 := low_rel (n := 1) hr1 (m := i) (Nat.le_of_lt hil') h1
  have hsplit : H' = H'.take i ++ H'.drop i := (List.take_append_drop _ _).symm
  have hlt : (H'.take i).length = i := by simp; omega
  have e : (AV.os i 0 rows.length rows.length).low H' i 1 = .pv (.rs sz rows) := by
    have := low_osm (H := H'.take i) (L := H'.drop i) (k := 0) (t := t) (sz := sz) (d := 0) (m := i) (n := rows.length) (rows := rows) (by omega) (by rw [List.getElem?_drop, Nat.add_zero]; exact hi') rfl
    rw [hlt, ← hsplit, Nat.add_zero] at this
    exact this
  rw [e] at h2
  cases h2 with
  | pv h3 =>
    refine h3.mono (fun b hb => ?_) (fun _ _ => rfl)
    rcases hb with hb | ⟨j, c, hj, hjl, hjd, hjB⟩
    · exact .inl hb
    · by_cases e : j = i
      · subst e; exact .inr ⟨c, hjB⟩
      · exfalso
        have hx := List.getElem?_eq_getElem hjl
        generalize H'[j] = o at hx
        rw [← hH] at hx
        rcases deads_get hx with ⟨q, _⟩ | ⟨_, q⟩
        · simp at q; omega
        · rw [hH] at hx; rw [hx] at hjd
          exact hjd (by rw [q])
theorem frz_rel (hr : HRel w B S H) {t sz : Nat} {rows : List (List PV)} (hi : H[i]? = some (.arr t sz (pvRows rows))) {a : AV} {v : Value} (h : ARel w B S H a v) : ARel w B (Plus B S i) (H.set i .dead) (a.frz i sz rows) v := by
  have st := frz_step (w := w) (B := B) (S := S) hi
  have lists : ∀ {cs : List AV} {vs : List Value}, (∀ (j : Nat) (c : AV) (v : Value), cs[j]? = some c → vs[j]? = some v → ARel w B (Plus B S i) (H.set i .dead) (c.frz i sz rows) v) →
      ∀ (j : Nat) (c : AV) (v : Value), (cs.map fun c => c.frz i sz rows)[j]? = some c → vs[j]? = some v → ARel w B (Plus B S i) (H.set i .dead) c v := by
    intro cs vs h j c v hc hv
    simp only [List.getElem?_map, Option.map_eq_some_iff] at hc
    obtain ⟨c', hc, rfl⟩ := hc
    exact h j c' v hc hv
  induction h with
  | @os id off len ext v hid h1 hl =>
    have h : ARel w B S H (.os id off len ext) v := ARel.os hid h1 hl
    simp only [AV.frz]
    split
    · rename_i e
      subst e
      split
      · rename_i e2
        obtain ⟨rfl, rfl, rfl⟩ := e2
        exact .pv (frz_os hr hi h)
      · exact .any
    · exact h.mono st
  | agg hl h1 h ih => simp only [AV.frz]; exact .agg (by simpa using hl) h1 (lists ih)
  | tup hl h ih => simp only [AV.frz]; exact .tup (by simpa using hl) (lists ih)
  | any => simp only [AV.frz]; exact .any
  | pv h => simp only [AV.frz]; exact (ARel.pv h).mono st
  | p hb hid hk => simp only [AV.frz]; exact (ARel.p hb hid hk).mono st
  | op hid h1 hl => simp only [AV.frz]; exact (ARel.op hid h1 hl).mono st
  | rp h => simp only [AV.frz]; exact (ARel.rp h).mono st
  | fn hf hc h k ih ik => simp only [AV.frz]; exact (ARel.fn hf hc h k).mono st
  | ifc h ih => simp only [AV.frz]; exact (ARel.ifc h).mono st
  | mp hb hid hk => simp only [AV.frz]; exact (ARel.mp hb hid hk).mono st
end
/-- A function may be given a row of one's own: it is gone then. -/
theorem ARun.frz {P : Program} {f : FuncId} {args args' : List AV} {v : AV} {H : List AObj} {t sz : Nat} {rows : List (List PV)} (i : Nat) (hi : H[i]? = some (.arr t sz (pvRows rows)))
    (h : ARun P f args' (H.set i .dead) (.ret v (H.set i .dead))) (ha : CvL (args.map fun c => c.frz i sz rows) args') : ARun P f args H (.ret v (H.set i .dead)) := by
  refine ⟨h.call, fun w B S vs hr hargs => ?_⟩
  have st0 := frz_step (w := w) (B := B) (S := S) hi
  have ha0 : ARelL w B (Plus B S i) (H.set i .dead) args' vs := by
    obtain ⟨g1, g2⟩ := ha.get
    refine ⟨by rw [← g1, List.length_map]; exact hargs.1, fun j c v hc hv => ?_⟩
    obtain ⟨c1, hc1, hcv⟩ := g2 j c hc
    simp only [List.getElem?_map, Option.map_eq_some_iff] at hc1
    obtain ⟨c', hc, rfl⟩ := hc1
    exact hcv _ _ _ _ _ (frz_rel hr hi (hargs.2 j c' v hc hv))
  refine (h.run w B _ vs (frz_hrel hr hi) ha0).mono ?_
  rintro e w' ⟨B', S', st, hr', he⟩
  exact ⟨B', S', st0.trans st, hr', he⟩
end Go.Proofs.YtpfjlifneibhfaaGreat.AL
namespace Go.Proofs.YtpfjlifneibhfaaGreat.AL
variable [G : GTab]
open Go.ChangeShapes Go.WideShapes Go.RowKit
abbrev Old (w : World) : Nat → Prop := fun b => b < w.heap.size
/-- Cells told by pure values. -/
inductive PRelL (w : World) (S : Nat → Prop) : List PV → List Value → Prop
  | nil : PRelL w S [] []
  | cons {p v ps vs} (h : PRel w S p v) (t : PRelL w S ps vs) : PRelL w S (p :: ps) (v :: vs)
section
variable {w : World} {S : Nat → Prop}
theorem PRelL.append {ps qs : List PV} {vs us : List Value} (h : PRelL w S ps vs) (k : PRelL w S qs us) : PRelL w S (ps ++ qs) (vs ++ us) := by
  induction h with
  | nil => exact k
  | cons h t ih => exact .cons h ih
theorem PRelL.len {ps : List PV} {vs : List Value} (h : PRelL w S ps vs) : ps.length = vs.length := by
  induction h with
  | nil => rfl
  | cons h t ih => simp [ih]
theorem PRelL.get {ps : List PV} {vs : List Value} (h : PRelL w S ps vs) : ∀ (j : Nat) (p : PV), ps[j]? = some p → ∃ v, vs[j]? = some v ∧ PRel w S p v := by
  induction h with
  | nil => intro j p h; simp at h
  | cons h t ih =>
    intro j p hj
    cases j with
    | zero => simp at hj; subst hj; exact ⟨_, rfl, h⟩
    | succ j => simp at hj; exact ih j p hj
theorem PRelL.one {ps : List PV} {vs : List Value} (h : PRelL w S ps vs) : ∀ v ∈ vs, v.oneCell' = true := by
  induction h with
  | nil => simp
  | cons h t ih =>
    intro v hv
    rcases List.mem_cons.1 hv with rfl | hv
    · exact h.one
    · exact ih v hv
theorem PRelL.arel {B : BMap} {H : List AObj} {ps : List PV} {vs : List Value} (h : PRelL w S ps vs) : ARelL w B S H (ps.map AV.pv) vs := by
  induction h with
  | nil => exact ARelL.nil
  | cons h t ih => exact ARelL.cons (.pv h) ih
theorem PRelL.ag {B : BMap} {H : List AObj} {ps : List PV} {vs : Array Value} (h : PRelL w S ps vs.toList) : ARel w B S H (.ag ps) (.agg vs) := by
  have := h.arel (B := B) (H := H)
  have h2 := ARel.agg this.1 h.one this.2
  simpa using h2
end
/-- How much a datum bears, by whatever count. -/
structure Bulk (β : (H : Type) → DataW H → Nat) (βl : (H : Type) → List (DataW H) → Nat) : Prop where
  lit : ∀ H l, 1 ≤ β H (.lit l)
  str : ∀ H b, β H (.lit (.string b)) = b.length + 1
  nil : ∀ H, β H .nil = 1
  slice : ∀ H es sp, β H (.slice es sp) = βl H es + βl H sp + 1
  agg : ∀ H ps, β H (.agg ps) = βl H ps + 1
  lnil : ∀ H, βl H [] = 0
  lcons : ∀ H d l, βl H (d :: l) = β H d + βl H l
/-- Data of type t is read asx α, with fuel up to n: told by enc, of weight at most the datum's, with property p. -/
def Rd (P : Program) (β : (H : Type) → DataW H → Nat) (n : Nat) (t : TypeId) {α : Type} (enc : α → List PV) (μ : α → Nat) (p : α → Prop) : Prop :=
  ∀ {H : Type} {e : TypeId × Value → H} {w : World} {sp : Nat → Bool} {hd : Bool} {fuel : Nat} {cs : List Value} {x : DataW H × List MemPlace}, fuel ≤ n →
    DataW.trod e P w 0 sp hd fuel t cs = some x → (∀ q ∈ x.2, q.block < w.heap.size) → ∃ a, PRelL w (Old w) (enc a) cs ∧ μ a ≤ β H x.1 ∧ p a
section
variable {P : Program} {β : (H : Type) → DataW H → Nat} {βl : (H : Type) → List (DataW H) → Nat} {n : Nat} {t : TypeId}
theorem Rd.zero {α : Type} {enc : α → List PV} {μ : α → Nat} {p : α → Prop} : Rd P β 0 t enc μ p := by
  intro H e w sp hd fuel cs x hn h _
  cases fuel with
  | zero => unfold DataW.trod at h; cases h
  | succ k => omega
theorem Rd.int (hB : Bulk β βl) {k : IntKind} (ht : P.underlying t = some (.int k)) : Rd P β n t (fun m : Int => [.sc (.int k m)]) (fun _ => 1) (fun m => (Lit.int k m).wf = true) := by
  intro H e w sp hd fuel cs x hn h _
  obtain ⟨m, rfl, rfl, hw⟩ := DataW.trod_int ht h
  exact ⟨m, .cons (.sc rfl) .nil, hB.lit _ _, hw⟩
theorem Rd.bool (hB : Bulk β βl) (ht : P.underlying t = some .bool) : Rd P β n t (fun m : Bool => [.sc (.bool m)]) (fun _ => 1) (fun _ => True) := by
  intro H e w sp hd fuel cs x hn h _
  obtain ⟨m, rfl, rfl⟩ := DataW.trod_bool ht h
  exact ⟨m, .cons (.sc rfl) .nil, hB.lit _ _, trivial⟩
theorem Rd.str (hB : Bulk β βl) (ht : P.underlying t = some .string) : Rd P β n t (fun m : ByteArray => [.sc (.string m)]) (fun m => m.size + 1) (fun m => m.size ≤ maxLen) := by
  intro H e w sp hd fuel cs x hn h _
  obtain ⟨m, rfl, rfl, hm⟩ := DataW.trod_string ht h
  refine ⟨m, .cons (.sc rfl) .nil, ?_, hm⟩
  show m.size + 1 ≤ β H (.lit (.string m.data.toList))
  rw [hB.str, Array.length_toList]; exact Nat.le_refl _
theorem add_add' (a : Addr) (i j : Nat) : (a.add i).add j = a.add (i + j) := by
  cases a with
  | mk b o s =>
    by_cases hi : i = 0
    · subst hi; simp [Addr.add]
    · by_cases hj : j = 0
      · subst hj; simp [Addr.add]
      · simp [Addr.add, hi, hj, Nat.add_assoc]
theorem choice_list {α β : Type} {R : Nat → α → β → Prop} : ∀ (l : List β) (k : Nat), (∀ i y, l[i]? = some y → ∃ a, R (k + i) a y) → ∃ asx : List α, asx.length = l.length ∧ ∀ (i : Nat) (a : α) (y : β), asx[i]? = some a → l[i]? = some y → R (k + i) a y
  | [], k, _ => ⟨[], rfl, fun i a y h => by simp at h⟩
  | y :: l, k, h => by
    obtain ⟨a, ha⟩ := h 0 y rfl
    obtain ⟨asx, h1, h2⟩ := choice_list (R := R) l (k + 1) (fun i z hz => by
      obtain ⟨b, hb⟩ := h (i + 1) z (by simpa using hz)
      exact ⟨b, by rw [show k + 1 + i = k + (i + 1) by omega]; exact hb⟩)
    refine ⟨a :: asx, by simp [h1], fun i b z hi hz => ?_⟩
    cases i with
    | zero => simp at hi hz; subst hi; subst hz; exact ha
    | succ i => simp at hi hz; have := h2 i b z hi hz; rwa [show k + (i + 1) = k + 1 + i by omega]
/-- The weights of a list. -/
def sumM {α : Type} (μ : α → Nat) : List α → Nat
  | [] => 0
  | a :: l => μ a + sumM μ l
theorem sum_le (hB : Bulk β βl) {H : Type} {α : Type} {μ : α → Nat} : ∀ (asx : List α) (ds : List (DataW H)), asx.length = ds.length → (∀ (i : Nat) (a : α) (d : DataW H), asx[i]? = some a → ds[i]? = some d → μ a ≤ β H d) → sumM μ asx ≤ βl H ds
  | [], [], _, _ => by simp [sumM]
  | [], _ :: _, h, _ => by simp at h
  | _ :: _, [], h, _ => by simp at h
  | a :: asx, d :: ds, h, k => by
    have h1 := k 0 a d rfl rfl
    have h2 := sum_le hB asx ds (by simpa using h) (fun i a d hi hd => k (i + 1) a d (by simpa using hi) (by simpa using hd))
    rw [hB.lcons]
    simp only [sumM]; omega
theorem Rd.slice (hB : Bulk β βl) {e : TypeId} {sz : Nat} (ht : P.underlying t = some (.slice e)) (hsz : P.cellsOf e = sz) (h0 : 0 < sz) {α : Type} {enc : α → List PV} {μ : α → Nat} {p : α → Prop}
    (R : Rd P β n e enc μ p) (hlen : ∀ a, (enc a).length = sz) : Rd P β (n + 1) t (fun l : List α => [.rs sz (l.map enc)]) (fun l => sumM μ l + 1) (fun l => ∀ a ∈ l, p a) := by
  intro H E w sp hd fuel cs x hn h hlt
  rcases DataW.trod_slice ht h with ⟨rfl, rfl⟩ | ⟨a, len, cap, elems, rest, m, rfl, rfl, rfl, hb, hlc, hcm, hl, hel, _, _⟩
  · refine ⟨[], .cons (PRel.rs (rows := []) (fun _ _ => undef) (Nat.le_refl _) (Nat.zero_le _) h0 (fun _ => rfl) (by simp) (by simp) (by simp)) .nil, ?_, by simp⟩
    simp only [sumM]; rw [hB.nil]; omega
  · subst hl
    have one : ∀ i y, elems[i]? = some y → ∃ b : α, (∃ us : List Value, us.length = sz ∧ (∀ j u, us[j]? = some u → w.cell? ((a.add (i * sz)).add j) = some u) ∧ PRelL w (Old w) (enc b) us) ∧ μ b ≤ β H y.1 ∧ p b := by
      intro i y hy
      have hi := (List.getElem?_eq_some_iff.1 hy).1
      have h1 := hel i hi
      rw [hy, hsz] at h1
      simp only [Option.bind_eq_some_iff] at h1
      obtain ⟨us, hu, h2⟩ := h1
      obtain ⟨b, h3, h4, h5⟩ := R (by omega) h2 (fun q hq => hlt q (by
        simp only [List.mem_append, List.mem_flatMap]
        exact .inr ⟨y, .inl (List.mem_of_getElem? hy), hq⟩))
      obtain ⟨_, k1, k2⟩ := World.cells?_some hu
      refine ⟨b, ⟨us, k1, fun j u hj => ?_, h3⟩, h4, h5⟩
      have hj' := (List.getElem?_eq_some_iff.1 hj).1
      have := k2 j (by omega)
      rw [hj] at this
      exact this
    obtain ⟨asx, hal, ha⟩ := choice_list (R := fun i (b : α) (y : DataW H × List MemPlace) => (∃ us : List Value, us.length = sz ∧ (∀ j u, us[j]? = some u → w.cell? ((a.add (i * sz)).add j) = some u) ∧ PRelL w (Old w) (enc b) us) ∧ μ b ≤ β H y.1 ∧ p b) elems 0
      (fun i y hy => by simpa using one i y hy)
    have ablk : 0 < elems.length → a.block < w.heap.size := by
      intro h
      have : MemPlace.cell a.block a.off ∈ MemPlace.row a ((elems.length + rest.length) * P.cellsOf e) := by
        refine MemPlace.mem_row.2 ⟨0, ?_, rfl⟩
        rw [hsz]; exact Nat.mul_pos (by omega) h0
      exact hlt _ (List.mem_append.2 (.inl this))
    refine ⟨asx, ?_, ?_, ?_⟩
    · refine .cons ?_ .nil
      have hrow : ∀ (i : Nat) (r : List PV), (asx.map enc)[i]? = some r → ∃ (b : α) (y : DataW H × List MemPlace), asx[i]? = some b ∧ elems[i]? = some y ∧ r = enc b := by
        intro i r hr
        simp only [List.getElem?_map, Option.map_eq_some_iff] at hr
        obtain ⟨b, hb, rfl⟩ := hr
        have := (List.getElem?_eq_some_iff.1 hb).1
        exact ⟨b, elems[i], hb, List.getElem?_eq_getElem (by omega), rfl⟩
      have hkey : ∀ (i : Nat) (r : List PV) (j : Nat) (q : PV), (asx.map enc)[i]? = some r → r[j]? = some q → w.cell? (a.add (i * sz + j)) = some ((w.cell? (a.add (i * sz + j))).getD undef) ∧ a.block < w.heap.size ∧ PRel w (Old w) q ((w.cell? (a.add (i * sz + j))).getD undef) := by
        intro i r j q hr hq
        obtain ⟨b, y, hb, hy, rfl⟩ := hrow i r hr
        obtain ⟨⟨us, k1, k2, k3⟩, _, _⟩ := ha i b y hb hy
        obtain ⟨u, hu, hrel⟩ := k3.get j q hq
        have := k2 j u hu
        rw [Nat.zero_add] at this
        have e : (a.add (i * sz)).add j = a.add (i * sz + j) := add_add' a _ _
        rw [e] at this
        rw [this]
        exact ⟨rfl, ablk (by have := (List.getElem?_eq_some_iff.1 hy).1; omega), hrel⟩
      have hlr : (asx.map enc).length = elems.length := by simp [hal]
      rw [← hlr]
      refine PRel.rs (fun i j => (w.cell? (a.add (i * sz + j))).getD undef) (by rw [hlr]; omega) hcm h0 (by simp) ?_ ?_ ?_
      · intro r hr
        obtain ⟨b, _, rfl⟩ := List.mem_map.1 hr
        exact hlen b
      · intro i r j q hr hq
        have := hkey i r j q hr hq
        exact ⟨a, rfl, this.2.1, this.1⟩
      · intro i r j q hr hq
        exact (hkey i r j q hr hq).2.2
    · have := sum_le hB (H := H) (μ := μ) asx (elems.map (·.1)) (by simp [hal]) (fun i b d hb hd => by
        simp only [List.getElem?_map, Option.map_eq_some_iff] at hd
        obtain ⟨y, hy, rfl⟩ := hd
        exact (ha i b y hb hy).2.1)
      show sumM μ asx + 1 ≤ β H (.slice (elems.map (·.1)) (rest.map (·.1)))
      rw [hB.slice]; omega
    · intro b hb
      obtain ⟨i, hi⟩ := List.mem_iff_getElem?.1 hb
      have := (List.getElem?_eq_some_iff.1 hi).1
      exact (ha i b elems[i] hi (List.getElem?_eq_getElem (by omega))).2.2
theorem Rd.mono {α : Type} {enc : α → List PV} {μ : α → Nat} {p : α → Prop} (R : ∀ n, Rd P β n t enc μ p) {m : Nat} : Rd P β m t enc μ p := R m
/-- A struct, field by field. -/
theorem trod_fields (hB : Bulk β βl) {fs : Array Field} (ht : P.underlying t = some (.struct fs)) {H : Type} {e : TypeId × Value → H} {w : World} {sp : Nat → Bool} {hd : Bool} {fuel : Nat} {cs : List Value} {x : DataW H × List MemPlace}
    (hn : fuel ≤ n + 1) (h : DataW.trod e P w 0 sp hd fuel t cs = some x) (hlt : ∀ q ∈ x.2, q.block < w.heap.size) :
    ∃ (xs : List (DataW H × List MemPlace)) (m : Nat), m ≤ n ∧ cs.length = P.cellsOf t ∧ xs.length = fs.size ∧ βl H (xs.map (·.1)) + 1 = β H x.1 ∧
      (∀ (i : Nat) (f : Field), fs[i]? = some f → DataW.trod e P w 0 sp hd m f.type ((cs.drop f.offset).take (P.cellsOf f.type)) = xs[i]?) ∧ (∀ y ∈ xs, ∀ q ∈ y.2, q.block < w.heap.size) := by
  obtain ⟨xs, m, rfl, rfl, h1, h2, h3⟩ := DataW.trod_struct ht h
  refine ⟨xs, m, by omega, h1, h2, by rw [hB.agg], h3, fun y hy q hq => hlt q ?_⟩
  simp only [List.mem_flatMap]
  exact ⟨y, hy, hq⟩
theorem trod_items (hB : Bulk β βl) {k : Nat} {e' : TypeId} (ht : P.underlying t = some (.array k e')) {H : Type} {e : TypeId × Value → H} {w : World} {sp : Nat → Bool} {hd : Bool} {fuel : Nat} {cs : List Value} {x : DataW H × List MemPlace}
    (hn : fuel ≤ n + 1) (h : DataW.trod e P w 0 sp hd fuel t cs = some x) (hlt : ∀ q ∈ x.2, q.block < w.heap.size) :
    ∃ (xs : List (DataW H × List MemPlace)) (m : Nat), m ≤ n ∧ cs.length = P.cellsOf t ∧ xs.length = k ∧ βl H (xs.map (·.1)) + 1 = β H x.1 ∧
      (∀ (i : Nat), i < k → DataW.trod e P w 0 sp hd m e' ((cs.drop (i * P.cellsOf e')).take (P.cellsOf e')) = xs[i]?) ∧ (∀ y ∈ xs, ∀ q ∈ y.2, q.block < w.heap.size) := by
  obtain ⟨xs, m, rfl, rfl, h1, h2, h3⟩ := DataW.trod_array ht h
  refine ⟨xs, m, by omega, h1, h2, by rw [hB.agg], h3, fun y hy q hq => hlt q ?_⟩
  simp only [List.mem_flatMap]
  exact ⟨y, hy, hq⟩
theorem of_one {w : World} {S : Nat → Prop} {p : PV} {v : Value} (h : PRelL w S [p] [v]) : PRel w S p v := by cases h with | cons h t => exact h
/-! ### an argument -/
theorem Rd.arg {α : Type} {enc : α → List PV} {μ : α → Nat} {p : α → Prop} (R : ∀ n, Rd P β n t enc μ p) {H : Type} {e : TypeId × Value → H} {w : World} {sp : Nat → Bool} {hd : Bool} {v : Value} {d : DataW H} {ps : List MemPlace}
    (h : DataW.Trod e P w 0 sp hd t v d ps) (hlt : ∀ q ∈ ps, q.block < w.heap.size) : ∃ a, PRelL w (Old w) (enc a) v.cells.toList ∧ μ a ≤ β H d ∧ p a := by
  obtain ⟨fuel, hf⟩ := h
  obtain ⟨a, h1, h2, h3⟩ := R fuel (Nat.le_refl _) hf hlt
  exact ⟨a, h1, h2, h3⟩
theorem arg_struct {w w0 : World} {B : BMap} {S : Nat → Prop} {H : List AObj} {ps : List PV} {v : Value} {r : Reach} {b : Nat} {fs : Array Field} (ht : P.underlying t = some (.struct fs)) (hv : Value.okWide P w0 r b t v)
    (h : PRelL w S ps v.cells.toList) : ARel w B S H (.ag ps) v := by
  obtain ⟨cs, rfl, _⟩ := okWide_struct ht hv
  exact h.ag
theorem arg_slice {w w0 : World} {B : BMap} {S : Nat → Prop} {H : List AObj} {p : PV} {v : Value} {r : Reach} {b : Nat} {e : TypeId} (ht : P.underlying t = some (.slice e)) (hv : Value.okWide P w0 r b t v)
    (h : PRelL w S [p] v.cells.toList) : ARel w B S H (.pv p) v := by
  obtain ⟨a, l, c, rfl⟩ := okWide_slice ht hv
  exact .pv (of_one h)
theorem arg_int {w w0 : World} {B : BMap} {S : Nat → Prop} {H : List AObj} {p : PV} {v : Value} {r : Reach} {b : Nat} {k : IntKind} (ht : P.underlying t = some (.int k)) (hv : Value.okWide P w0 r b t v)
    (h : PRelL w S [p] v.cells.toList) : ARel w B S H (.pv p) v := by
  obtain ⟨n, rfl⟩ := okWide_int ht hv
  exact .pv (of_one h)
/-! ### the row -/
theorem top_hrel (w : World) (hG : GRel w (Old w)) : HRel w (fun _ => none) (Old w) [] :=
  ⟨fun id o h => by simp at h, fun i j b c d hi => by simp at hi, fun i b c hi => by simp at hi, fun b h => h, hG⟩
/-- All of the arguments read behind the call asx they did. -/
theorem trodAll_below {H : Type} {e : TypeId × Value → H} (hl : laidOutB P = true) {W W' : World} (hb : Below W.heap.size W W') : ∀ {ts : List TypeId} {vs : List Value} {ds : List (DataW H)} {ps : List MemPlace},
    (∀ t ∈ ts, P.readableRec t = true ∧ t < P.types.size) → DataW.TrodAll e P W 0 (fun _ => true) true ts vs ds ps → (∀ x ∈ ps, x.block < W.heap.size) →
    ∀ sp : Nat → Bool, (∀ p ∈ ps, sp p.block = true) → DataW.TrodAll e P W' 0 sp true ts vs ds ps
  | [], vs, ds, ps, _, h, _, sp, _ => by
    obtain ⟨rfl, rfl, rfl⟩ := trodAll_nil h
    exact rfl
  | t :: ts, vs, ds, ps, hr, h, hlt, sp, hsp => by
    obtain ⟨v, vs', d, ds', p, q, rfl, rfl, rfl, h1, h2⟩ := trodAll_cons h
    refine ⟨p, q, ?_, trodAll_below hl hb (fun t ht => hr t (by simp [ht])) h2 (fun x hx => hlt x (by simp [hx])) sp (fun x hx => hsp x (by simp [hx])), rfl⟩
    exact WideElems.Trod_stays hl (hr t (by simp)).1 (hr t (by simp)).2 h1 (fun x hx => hb.same (hlt x (by simp [hx]))) (fun x hx => hsp x (by simp [hx]))
theorem Step.below {w w' : World} {B B' : BMap} {S S' : Nat → Prop} {H H' : List AObj} (st : Step w B S H w' B' S' H') (hS : ∀ b, b < w.heap.size → S b) : Below w.heap.size w w' :=
  ⟨st.os, st.tape, st.output, st.size, fun k hk => st.keep k (hS k hk)⟩
/-- What a law owes, out of its walk. -/
theorem law_post {f : FuncId} {fn : Func} {s : ChangeSpec} {H : Type} {e : TypeId × Value → H} {apart fresh handsOn again : Bool} {W : World} {args : Array Value} {ds gs : List (DataW H)} {before : List MemPlace} {xs : List AV} {tb : TypeId}
    (hG : GRel W (Old W)) (hl : laidOutB P = true) (hW : DataW.Whole e P fn.params.toList s.vars apart W args.toList ds gs before) (hv : s.vars = []) (hr : ∀ t ∈ fn.params.toList, P.readableRec t = true ∧ t < P.types.size)
    (hres : fn.resultTypes = #[tb]) (htb : P.underlying tb = some .bool) (hspec : (s.fn H ds).results = [.lit (.bool true)]) (hargs : (s.fn H ds).args = ds) (hvars : (s.fn H ds).vars = [])
    (hx : ARelL W (fun _ => none) (Old W) [] xs args.toList) (hrun : ARun P f xs [] (.ret (.b true) [])) :
    Calls P f args W fun en W' => ∃ v, en = .returned v ∧ s.post e P fn apart fresh handsOn again W args v W' := by
  have hW' := hW
  obtain ⟨p, q, hA, hV, rfl, hfz, hnd⟩ := hW
  rw [hv] at hV
  obtain ⟨rfl, rfl⟩ := trodVars_none hV
  simp only [List.append_nil] at hW' hfz hnd
  have := hrun.run W (fun _ => none) (Old W) args.toList (top_hrel W hG) hx
  simp only [Array.toArray_toList] at this
  refine this.mono ?_
  rintro en W' ⟨B', S', st, hr', he⟩
  have hb : Below W.heap.size W W' := st.below (fun b h => h)
  cases en with
  | returned v =>
    have hvv : v = .bool true := sc_eq he
    subst hvv
    have hlt : ∀ x ∈ p, x.block < W.heap.size := fun x hx => by simpa using hW'.lt x hx
    have hargsT := fun sp hsp => trodAll_below hl hb hr hA hlt sp hsp
    have hbool : ∀ (b : Nat) (sp : Nat → Bool) (hd : Bool), DataW.TrodAll e P W' b sp hd fn.resultTypes.toList ((Value.bool true).resultList fn.resultTypes.size) [.lit (.bool true)] [] := by
      intro b sp hd
      rw [hres]
      exact ⟨[], [], ⟨1, by simp [DataW.trod, Value.cells, htb]⟩, rfl, rfl⟩
    have hold : ∀ x ∈ p, (fun b => decide (b < W.heap.size)) x.block = true := fun x hx => by simpa using hlt x hx
    have hvs : ∀ (sp : Nat → Bool), DataW.TrodVars e P W' sp s.vars ([] : List (DataW H)) [] := by intro sp; rw [hv]; rfl
    refine ⟨_, rfl, ds, [], p, [], p, [], hW', ?_, ?_, ?_, ?_, fun _ => ⟨?_, ?_⟩⟩
    · simp only [List.append_nil, hspec]; exact hbool _ _ _
    · simp only [List.append_nil, hargs]; exact hargsT _ hold
    · simp only [List.append_nil, hvars]; exact hvs _
    · exact hb.frame _
    · intro j t r h1 h2
      rw [hres] at h1 h2
      match j, h1, h2 with
      | 0, h1, h2 =>
        simp [Value.resultList] at h1 h2
        subst h1; subst h2
        simp [Value.okWide, htb, Cell.okWide, Cell.ok]
    · refine ⟨.lit (.bool true) :: ds, [], [] ++ p ++ [], ⟨[] ++ p, [], trodAll_append (hargsT (fun _ => true) (fun _ _ => rfl)) (hbool _ _ _), hvs _, rfl, ?_, ?_⟩, ?_⟩
      · intro b off hp
        simp only [List.append_nil, List.nil_append] at hp
        have h1 := hlt _ hp
        rw [World.frozen?_of_block (w := W) (a := ⟨b, off, none⟩) (hb.block b h1)]
        exact hfz b off hp
      · intro ha; simpa using hnd ha
      · intro x hx _; simpa using hx
  | panicked c => exact he.elim
  | outgrown => exact he.elim
end
end Go.Proofs.YtpfjlifneibhfaaGreat.AL
namespace Go.Proofs.YtpfjlifneibhfaaGreat.AL
variable [G : GTab]
theorem Rd.le {P : Program} {β : (H : Type) → DataW H → Nat} {n m : Nat} {t : TypeId} {α : Type} {enc : α → List PV} {μ : α → Nat} {p : α → Prop} (R : Rd P β n t enc μ p) (h : m ≤ n) : Rd P β m t enc μ p :=
  fun hn hx hl => R (Nat.le_trans hn h) hx hl
end Go.Proofs.YtpfjlifneibhfaaGreat.AL
namespace Go.Proofs.YtpfjlifneibhfaaGreat.AL
def inferS (l : List Vr) (e : Ex) : Except Int Un :=
  match ksL l with
  | none => .error 1
  | some vs => if 12 < l.length then .error 1 else if 60 < nodes e then .error 2 else inf vs e
def ansU : Except Int Un → AV
  | .ok u => .tup [.ag (cU u), .i 0]
  | .error x => .tup [.ag [.i 0, .i 0, .i 0], .i x]
end Go.Proofs.YtpfjlifneibhfaaGreat.AL
namespace Go.Proofs.YtpfjlifneibhfaaGreat.AL
mutual
def fine : St → Prop
  | .mk _ _ _ a b t e => nodes a ≤ 900000 ∧ nodes b ≤ 900000 ∧ fineL t ∧ fineL e
def fineL : List St → Prop
  | [] => True
  | s :: ss => fine s ∧ fineL ss
end
theorem fine_eq (s : St) : fine s = (nodes s.a ≤ 900000 ∧ nodes s.b ≤ 900000 ∧ fineL s.thn ∧ fineL s.els) := by cases s; rw [fine]; rfl
theorem fineL_app {l m : List St} (h : fineL l) (k : fineL m) : fineL (l ++ m) := by
  induction l with
  | nil => exact k
  | cons x xs ih => exact ⟨h.1, ih h.2⟩
theorem fineL_mem {l : List St} {s : St} (h : fineL l) (hm : s ∈ l) : fine s := by
  induction l with
  | nil => cases hm
  | cons x xs ih =>
    rcases List.mem_cons.1 hm with rfl | hm
    · exact h.1
    · exact ih h.2 hm
theorem fine_inner {s : St} (h : fine s) : fineL (innerL s) := by
  rw [fine_eq] at h
  unfold innerL
  split
  · exact fineL_app h.2.2.1 h.2.2.2
  · trivial
mutual
def smS : St → Bool
  | .mk k _ _ a b t e => decide (nodes a ≤ 60) && (if k = 2 then decide (nodes b ≤ 60) && (smSL t && smSL e) else true)
def smSL : List St → Bool
  | [] => true
  | s :: ss => smS s && smSL ss
end
theorem smSL_app (l m : List St) : smSL (l ++ m) = (smSL l && smSL m) := by
  induction l with
  | nil => simp [smSL]
  | cons x xs ih => simp only [List.cons_append, smSL, ih, Bool.and_assoc]
theorem smS_eq (s : St) : smS s = (decide (nodes s.a ≤ 60) && (if s.kind = 2 then decide (nodes s.b ≤ 60) else true) && smSL (innerL s)) := by
  have : smS s = (decide (nodes s.a ≤ 60) && (if s.kind = 2 then decide (nodes s.b ≤ 60) && (smSL s.thn && smSL s.els) else true)) := by cases s; rw [smS]; rfl
  rw [this]; unfold innerL
  split
  · rw [smSL_app]; simp [Bool.and_assoc]
  · simp [smSL]
end Go.Proofs.YtpfjlifneibhfaaGreat.AL
namespace Go.Proofs.YtpfjlifneibhfaaGreat.AL
mutual
def tot : St → Nat
  | .mk _ _ _ _ _ t e => 1 + totL t + totL e
def totL : List St → Nat
  | [] => 0
  | s :: ss => tot s + totL ss
end
theorem tot_eq (s : St) : tot s = 1 + totL s.thn + totL s.els := by cases s; rw [tot]; rfl
theorem totL_mem {l : List St} {s : St} (h : s ∈ l) : tot s ≤ totL l := by
  induction l with
  | nil => cases h
  | cons x xs ih =>
    simp only [totL]
    rcases List.mem_cons.1 h with rfl | h
    · omega
    · have := ih h; omega
theorem len_totL (l : List St) : l.length ≤ totL l := by
  induction l with
  | nil => simp
  | cons x xs ih => simp only [List.length_cons, totL]; rw [tot_eq]; omega
mutual
def stS (vs : List Un) : St → Int
  | .mk k v r a b t e =>
    if k = 1 then (if 0 ≤ v then (match vs[v.toNat]? with
      | none => 1
      | some w => match inf vs a with
        | .error x => x
        | .ok u => if u = w then 0 else 13) else 1)
    else if k = 2 then (if 1 ≤ r ∧ r ≤ 6 then (match inf vs a with
      | .error x => x
      | .ok u => match inf vs b with
        | .error x => x
        | .ok w => if u = w then (if stSL vs t = 0 then stSL vs e else stSL vs t) else 13) else 1)
    else 1
def stSL (vs : List Un) : List St → Int
  | [] => 0
  | s :: ss => if stS vs s = 0 then stSL vs ss else stS vs s
end
theorem stS_eq (vs : List Un) (s : St) : stS vs s = if s.kind = 1 then (if 0 ≤ s.var then (match vs[s.var.toNat]? with
      | none => 1
      | some w => match inf vs s.a with
        | .error x => x
        | .ok u => if u = w then 0 else 13) else 1)
    else if s.kind = 2 then (if 1 ≤ s.rel ∧ s.rel ≤ 6 then (match inf vs s.a with
      | .error x => x
      | .ok u => match inf vs s.b with
        | .error x => x
        | .ok w => if u = w then (if stSL vs s.thn = 0 then stSL vs s.els else stSL vs s.thn) else 13) else 1)
    else 1 := by cases s; rw [stS]; rfl
theorem leafS_err {vs : List Un} {op n u x : Int} (h : leafS vs op n u = .error x) : x = 1 ∨ x = 13 := by
  unfold leafS at h
  repeat' split at h
  all_goals first
    | cases h; done
    | (simp only [Except.error.injEq] at h; subst h; exact .inl rfl)
theorem comb_err {op : Int} {a b : Un} {x : Int} (h : comb op a b = .error x) : x = 1 ∨ x = 13 := by
  unfold comb at h
  repeat' split at h
  all_goals first
    | cases h; done
    | (simp only [Except.error.injEq] at h; subst h; exact .inr rfl)
theorem node_err {vs : List Un} {op n u : Int} {l : List Un} {x : Int} (h : node vs op n u l = .error x) : x = 1 ∨ x = 13 := by
  unfold node at h
  split at h
  · exact leafS_err h
  · split at h
    · exact comb_err h
    · simp only [Except.error.injEq] at h; subst h; exact .inl rfl
  · simp only [Except.error.injEq] at h; subst h; exact .inl rfl
theorem inf_err (vs : List Un) (e : Ex) : ∀ x, inf vs e = .error x → x = 1 ∨ x = 13 := by
  induction e using Ex.ind with
  | h e ih =>
    intro x hx
    rw [inf_eq] at hx
    have key : ∀ (l : List Ex), (∀ k ∈ l, ∀ x, inf vs k = .error x → x = 1 ∨ x = 13) → ∀ x, infL vs l = .error x → x = 1 ∨ x = 13 := by
      intro l
      induction l with
      | nil => intro _ x hx; simp only [infL] at hx; cases hx
      | cons y ys ihl =>
        intro hk x hx
        simp only [infL] at hx
        split at hx
        · rename_i z hz
          simp only [Except.error.injEq] at hx; subst hx
          exact hk y (by simp) _ hz
        · split at hx
          · rename_i z hz
            simp only [Except.error.injEq] at hx; subst hx
            exact ihl (fun k hk' => hk k (by simp [hk'])) _ hz
          · cases hx
    split at hx
    · rename_i z hz
      simp only [Except.error.injEq] at hx; subst hx
      exact key _ ih _ hz
    · exact node_err hx
end Go.Proofs.YtpfjlifneibhfaaGreat.AL
namespace Go.Proofs.YtpfjlifneibhfaaGreat.AL
def handS (vs : List Un) (l : List St) : Int := if 100 < manyL l then 2 else if smSL l = true then stSL vs l else 2
end Go.Proofs.YtpfjlifneibhfaaGreat.AL
namespace Go.Proofs.YtpfjlifneibhfaaGreat.AL
def evS (vs : List Un) (p : Prg) : Int × Int :=
  if handS vs p.on0 ≠ 0 then (0, handS vs p.on0) else if handS vs p.on1 ≠ 0 then (1, handS vs p.on1) else if handS vs p.on2 ≠ 0 then (2, handS vs p.on2)
  else if handS vs p.on3 ≠ 0 then (3, handS vs p.on3) else if handS vs p.on4 ≠ 0 then (4, handS vs p.on4) else (-1, 0)
def checkS (p : Prg) : Int × Int := match ksL p.vars with
  | none => (0, 1)
  | some vs => if 12 < p.vars.length then (0, 1) else evS vs p
/-- Handlers that can be counted. -/
def okP (p : Prg) : Prop :=
  (manyL p.on0 ≤ 900000 ∧ fineL p.on0) ∧ (manyL p.on1 ≤ 900000 ∧ fineL p.on1) ∧ (manyL p.on2 ≤ 900000 ∧ fineL p.on2) ∧ (manyL p.on3 ≤ 900000 ∧ fineL p.on3) ∧ (manyL p.on4 ≤ 900000 ∧ fineL p.on4)
end Go.Proofs.YtpfjlifneibhfaaGreat.AL
namespace Go.Proofs.YtpfjlifneibhfaaGreat.AL
def varsL : List Vr := [⟨⟨#[119]⟩, 1, 0, 0, 0⟩, ⟨⟨#[112]⟩, 4, 0, 0, 0⟩]
def isS (e : Ex) (u : Un) : Bool := match inferS varsL e with
  | .ok v => decide (v = u)
  | .error _ => false
def failsS (e : Ex) (x : Int) : Bool := match inferS varsL e with
  | .ok v => decide (0 = x) && decide (v = ⟨0, 0, 0⟩)
  | .error y => decide (y = x)
end Go.Proofs.YtpfjlifneibhfaaGreat.AL
namespace Go.Proofs.YtpfjlifneibhfaaGreat.AL
theorem nodesL_sum : ∀ l : List Ex, nodesL l = sumM nodes l
  | [] => rfl
  | e :: l => by simp only [nodesL, sumM, nodesL_sum l]
mutual
def wS : St → Nat
  | .mk _ _ _ a b t e => 1 + nodes a + nodes b + wSL t + wSL e
def wSL : List St → Nat
  | [] => 0
  | s :: ss => wS s + wSL ss
end
theorem wSL_sum : ∀ l : List St, wSL l = sumM wS l
  | [] => rfl
  | e :: l => by simp only [wSL, sumM, wSL_sum l]
theorem wS_eq (s : St) : wS s = 1 + nodes s.a + nodes s.b + wSL s.thn + wSL s.els := by cases s; rw [wS]; rfl
theorem many_le : ∀ s : St, many s ≤ wS s := by
  intro s
  induction s using St.ind with
  | h s h1 h2 =>
    have key : ∀ l : List St, (∀ k ∈ l, many k ≤ wS k) → manyL l ≤ wSL l := by
      intro l
      induction l with
      | nil => intro _; simp [manyL, wSL]
      | cons x xs ih => intro h; simp only [manyL, wSL]; have := h x (by simp); have := ih (fun k hk => h k (by simp [hk])); omega
    rw [many_eq, wS_eq]
    have := key _ h1; have := key _ h2
    split <;> omega
theorem manyL_le : ∀ l : List St, manyL l ≤ wSL l
  | [] => by simp [manyL, wSL]
  | s :: l => by simp only [manyL, wSL]; have := many_le s; have := manyL_le l; omega
theorem tot_le : ∀ s : St, tot s ≤ wS s := by
  intro s
  induction s using St.ind with
  | h s h1 h2 =>
    have key : ∀ l : List St, (∀ k ∈ l, tot k ≤ wS k) → totL l ≤ wSL l := by
      intro l
      induction l with
      | nil => intro _; simp [totL, wSL]
      | cons x xs ih => intro h; simp only [totL, wSL]; have := h x (by simp); have := ih (fun k hk => h k (by simp [hk])); omega
    rw [tot_eq, wS_eq]
    have := key _ h1; have := key _ h2
    omega
theorem totL_le : ∀ l : List St, totL l ≤ wSL l
  | [] => by simp [totL, wSL]
  | s :: l => by simp only [totL, wSL]; have := tot_le s; have := totL_le l; omega
def wV (v : Vr) : Nat := v.name.size + 5
def wP (p : Prg) : Nat := p.name.size + sumM wV p.vars + wSL p.on0 + wSL p.on1 + wSL p.on2 + wSL p.on3 + wSL p.on4 + 1
theorem len_sumM {α : Type} {μ : α → Nat} (h : ∀ a, 1 ≤ μ a) : ∀ l : List α, l.length ≤ sumM μ l
  | [] => by simp [sumM]
  | a :: l => by simp only [List.length_cons, sumM]; have := h a; have := len_sumM h l; omega
end Go.Proofs.YtpfjlifneibhfaaGreat.AL
namespace Go.Proofs.YtpfjlifneibhfaaGreat.AL
structure Ins where
  op : Int
  n : Int
  rel : Int
  deriving DecidableEq
abbrev cI (x : Ins) : List PV := [.i x.op, .i x.n, .i x.rel]
def encI (x : Ins) : List PV := cI x
structure Cod where
  c0 : List Ins
  c1 : List Ins
  c2 : List Ins
  c3 : List Ins
  c4 : List Ins
abbrev cC (c : Cod) : List PV := [.rs 3 (c.c0.map encI), .rs 3 (c.c1.map encI), .rs 3 (c.c2.map encI), .rs 3 (c.c3.map encI), .rs 3 (c.c4.map encI)]
structure Cal where
  ev : Int
  i0 : Int
  i1 : Int
  i2 : Int
  i3 : Int
abbrev rI (l : List Int) : List (List PV) := l.map fun n => [.i n]
/-- An instruction is as it must be: index i, so many instructions, so many variables. -/
def insOk (x : Ins) (i len vars : Int) : Bool :=
  if x.op = 12 then decide (i < x.n ∧ x.n ≤ len ∧ 1 ≤ x.rel ∧ x.rel ≤ 6)
  else decide (x.rel = 0) && (if x.op = 1 then decide (-1000000000000 ≤ x.n ∧ x.n ≤ 1000000000000) else if x.op = 2 ∨ x.op = 11 then decide (0 ≤ x.n ∧ x.n < vars) else if x.op = 3 then decide (0 ≤ x.n ∧ x.n < 4)
    else if x.op = 13 then decide (i < x.n ∧ x.n ≤ len) else decide (x.n = 0 ∧ 4 ≤ x.op ∧ x.op ≤ 10))
def takes (op : Int) : Int := if op = 1 ∨ op = 2 ∨ op = 3 ∨ op = 13 then 0 else if op = 11 then 1 else 2
def puts (op : Int) : Int := if op = 11 ∨ op = 12 ∨ op = 13 then 0 else 1
theorem insOk_op {x : Ins} {i len vars : Int} (h : insOk x i len vars = true) : 1 ≤ x.op ∧ x.op ≤ 13 := by
  unfold insOk at h
  repeat' split at h
  all_goals simp at h
  all_goals omega
end Go.Proofs.YtpfjlifneibhfaaGreat.AL
namespace Go.Proofs.YtpfjlifneibhfaaGreat.AL
def prodS (a b : Int) : Int := if a = 0 then 0 else if b < (-1000000000000 : Int).tdiv (if a < -a then -a else a) ∨ (1000000000000 : Int).tdiv (if a < -a then -a else a) < b then 1000000000001 else a * b
def downS (a b : Int) : Int := if a.tmod b ≠ 0 ∧ (decide (a < 0) != decide (b < 0)) = true then a.tdiv b - 1 else a.tdiv b
/-- A value, or the error of one. -/
def valS (n : Int) : Except Int Int := if -1000000000000 ≤ n ∧ n ≤ 1000000000000 then .ok n else .error 3
def calcS (op a b : Int) : Except Int Int :=
  if op = 4 then valS (a + b) else if op = 5 then valS (a - b) else if op = 6 then valS (prodS a b) else if op = 9 then valS (if b < a then b else a) else if op = 10 then valS (if a < b then b else a)
  else if b = 0 then .error 14 else if op = 8 then valS (-downS (-a) b) else valS (downS a b)
def holdsS (a rel b : Int) : Bool := if rel = 1 then decide (a < b) else if rel = 2 then decide (a ≤ b) else if rel = 3 then decide (b < a) else if rel = 4 then decide (b ≤ a) else if rel = 5 then a == b else a != b
abbrev isV (n : Int) : Prop := -1000000000000 ≤ n ∧ n ≤ 1000000000000
theorem tdiv_bd {a b : Int} (h : isV a) (hb : b ≠ 0) : isV (a.tdiv b) := by
  have h1 : (a.tdiv b).natAbs ≤ a.natAbs := by rw [Int.natAbs_tdiv]; exact Nat.div_le_self _ _
  omega
theorem downS_bd {a b : Int} (h : isV a) (hb : b ≠ 0) : -1000000000001 ≤ downS a b ∧ downS a b ≤ 1000000000000 := by
  have := tdiv_bd h hb
  unfold downS
  split <;> omega
end Go.Proofs.YtpfjlifneibhfaaGreat.AL
namespace Go.Proofs.YtpfjlifneibhfaaGreat.AL
end Go.Proofs.YtpfjlifneibhfaaGreat.AL
namespace Go.Proofs.YtpfjlifneibhfaaGreat.AL
theorem prodS_out {a b m : Int} (h0 : ¬ a = 0) (hm : (if a < -a then -a else a) = m) (h : b < (-1000000000000 : Int).tdiv m ∨ (1000000000000 : Int).tdiv m < b) : prodS a b = 1000000000001 := by
  unfold prodS; rw [if_neg h0, hm, if_pos h]
theorem prodS_in {a b m : Int} (h0 : ¬ a = 0) (hm : (if a < -a then -a else a) = m) (h : ¬ (b < (-1000000000000 : Int).tdiv m ∨ (1000000000000 : Int).tdiv m < b)) : prodS a b = a * b := by
  unfold prodS; rw [if_neg h0, hm, if_neg h]
end Go.Proofs.YtpfjlifneibhfaaGreat.AL
namespace Go.Proofs.YtpfjlifneibhfaaGreat.AL
theorem valS_ok {n v : Int} (h : valS n = .ok v) : isV n ∧ v = n := by
  unfold valS at h; split at h
  · cases h; exact ⟨by assumption, rfl⟩
  · cases h
theorem valS_err {n e : Int} (h : valS n = .error e) : ¬ isV n ∧ e = 3 := by
  unfold valS at h; split at h
  · cases h
  · cases h; exact ⟨by assumption, rfl⟩
theorem calcS_isV {op a b v : Int} (h : calcS op a b = .ok v) : isV v := by
  unfold calcS at h
  repeat' split at h
  all_goals first | (cases h; done) | (obtain ⟨hv, rfl⟩ := valS_ok h; exact hv)
end Go.Proofs.YtpfjlifneibhfaaGreat.AL
namespace Go.Proofs.YtpfjlifneibhfaaGreat.AL
structure Cf where
  now : List Int
  stk : List Int
  at' : Nat
abbrev inS (i0 i1 i2 i3 : Int) (j : Nat) : Int := if j = 0 then i0 else if j = 1 then i1 else if j = 2 then i2 else i3
section
variable (vs : List Vr) (i0 i1 i2 i3 : Int)
def stepS (x : Ins) (c : Cf) : Except Int Cf :=
  if x.op = 1 then .ok ⟨c.now, c.stk ++ [x.n], c.at' + 1⟩
  else if x.op = 2 then .ok ⟨c.now, c.stk ++ [c.now.getD x.n.toNat 0], c.at' + 1⟩
  else if x.op = 3 then .ok ⟨c.now, c.stk ++ [inS i0 i1 i2 i3 x.n.toNat], c.at' + 1⟩
  else if x.op = 11 then (match vs[x.n.toNat]? with
    | none => .error 1
    | some vr => if vr.low ≤ c.stk.getD (c.stk.length - 1) 0 ∧ c.stk.getD (c.stk.length - 1) 0 ≤ vr.high then .ok ⟨c.now.set x.n.toNat (c.stk.getD (c.stk.length - 1) 0), c.stk.take (c.stk.length - 1), c.at' + 1⟩ else .error 15)
  else if x.op = 12 then .ok ⟨c.now, c.stk.take (c.stk.length - 2), if holdsS (c.stk.getD (c.stk.length - 2) 0) x.rel (c.stk.getD (c.stk.length - 1) 0) = true then c.at' + 1 else x.n.toNat⟩
  else if x.op = 13 then .ok ⟨c.now, c.stk, x.n.toNat⟩
  else match calcS x.op (c.stk.getD (c.stk.length - 2) 0) (c.stk.getD (c.stk.length - 1) 0) with
    | .ok v => .ok ⟨c.now, c.stk.take (c.stk.length - 2) ++ [v], c.at' + 1⟩
    | .error e => .error e
/-- How a handler runs, so many steps at most. -/
def traceS (l : List Ins) : Nat → Cf → Nat → Except Int (List Int) × Nat
  | 0, c, n => (.ok c.now, n)
  | f + 1, c, n => match l[c.at']? with
    | none => (.ok c.now, n)
    | some x => match stepS vs i0 i1 i2 i3 x c with
      | .error e => (.error e, n + 1)
      | .ok c' => traceS l f c' (n + 1)
end
/-- A configuration as it must be. -/
structure CfOk (vs : List Vr) (c : Cf) : Prop where
  now : c.now.length = vs.length
  nowV : ∀ v ∈ c.now, isV v
  stkV : ∀ v ∈ c.stk, isV v
/-- An instruction that finds what it needs. -/
structure At (vs : List Vr) (len : Int) (x : Ins) (c : Cf) : Prop where
  ok : insOk x c.at' len vs.length = true
  tk : takes x.op ≤ c.stk.length
  pt : (c.stk.length : Int) - takes x.op + puts x.op ≤ 64
theorem getD_mem {l : List Int} {k : Nat} (h : k < l.length) : l.getD k 0 ∈ l := by
  rw [List.getD_eq_getElem?_getD, List.getElem?_eq_getElem h]; simp
theorem calcS_err {op a b e : Int} (h : calcS op a b = .error e) : e = 3 ∨ e = 14 := by
  unfold calcS at h
  repeat' split at h
  all_goals first | (obtain ⟨_, rfl⟩ := valS_err h; exact .inl rfl) | (cases h; exact .inr rfl)
section
variable {vs : List Vr} {i0 i1 i2 i3 : Int} {x : Ins} {c c' : Cf} {len : Int}
theorem stepS_ok (h : stepS vs i0 i1 i2 i3 x c = .ok c') (hc : CfOk vs c) (ha : At vs len x c) (hi : ∀ j, isV (inS i0 i1 i2 i3 j)) :
    CfOk vs c' ∧ (c'.stk.length : Int) = c.stk.length - takes x.op + puts x.op ∧ (c'.at' = c.at' + 1 ∧ x.op ≠ 13 ∨ c'.at' = x.n.toNat ∧ (x.op = 12 ∨ x.op = 13)) ∧ c.at' < c'.at' ∧ (c'.at' : Int) ≤ max len (c.at' + 1) := by
  have hok := ha.ok
  have htk := ha.tk
  have hop := insOk_op hok
  unfold insOk at hok
  unfold stepS at h
  by_cases h1 : x.op = 1
  · rw [if_pos h1] at h; cases h
    simp only [h1] at hok htk ⊢
    simp at hok
    refine ⟨⟨hc.now, hc.nowV, fun v hv => ?_⟩, by simp [takes, puts], by simp, by simp, by simp; omega⟩
    simp at hv; rcases hv with hv | rfl
    · exact hc.stkV v hv
    · exact ⟨hok.2.1, hok.2.2⟩
  rw [if_neg h1] at h
  by_cases h2 : x.op = 2
  · rw [if_pos h2] at h; cases h
    simp only [h2] at hok htk ⊢
    simp at hok
    have hl : x.n.toNat < c.now.length := by rw [hc.now]; omega
    refine ⟨⟨hc.now, hc.nowV, fun v hv => ?_⟩, by simp [takes, puts], by simp, by simp, by simp; omega⟩
    simp only [List.mem_append, List.mem_singleton] at hv; rcases hv with hv | rfl
    · exact hc.stkV v hv
    · exact hc.nowV _ (getD_mem hl)
  rw [if_neg h2] at h
  by_cases h3 : x.op = 3
  · rw [if_pos h3] at h; cases h
    simp only [h3] at hok htk ⊢
    refine ⟨⟨hc.now, hc.nowV, fun v hv => ?_⟩, by simp [takes, puts], by simp, by simp, by simp; omega⟩
    simp only [List.mem_append, List.mem_singleton] at hv; rcases hv with hv | rfl
    · exact hc.stkV v hv
    · exact hi _
  rw [if_neg h3] at h
  by_cases h11 : x.op = 11
  · rw [if_pos h11] at h
    simp only [h11] at hok htk ⊢
    simp [takes] at htk
    have hm := hc.stkV _ (getD_mem (l := c.stk) (k := c.stk.length - 1) (by omega))
    split at h
    · cases h
    · split at h
      · cases h
        refine ⟨⟨by simp [hc.now], fun v hv => ?_, fun v hv => hc.stkV v (List.mem_of_mem_take hv)⟩, by simp [takes, puts]; omega, by simp, by simp, by simp; omega⟩
        rcases List.mem_or_eq_of_mem_set hv with hv | rfl
        · exact hc.nowV v hv
        · exact hm
      · cases h
  rw [if_neg h11] at h
  by_cases h12 : x.op = 12
  · rw [if_pos h12] at h; cases h
    simp only [h12] at hok htk ⊢
    simp at hok
    simp [takes] at htk
    refine ⟨⟨hc.now, hc.nowV, fun v hv => hc.stkV v (List.mem_of_mem_take hv)⟩, by simp [takes, puts]; omega, ?_, ?_, ?_⟩
    all_goals (split <;> simp <;> omega)
  rw [if_neg h12] at h
  by_cases h13 : x.op = 13
  · rw [if_pos h13] at h; cases h
    simp only [h13] at hok htk ⊢
    simp at hok
    refine ⟨⟨hc.now, hc.nowV, hc.stkV⟩, by simp [takes, puts], by simp, by simp; omega, by simp; omega⟩
  rw [if_neg h13] at h
  have ht : takes x.op = 2 := by unfold takes; rw [if_neg (by omega), if_neg h11]
  have hp : puts x.op = 1 := by unfold puts; rw [if_neg (by omega)]
  rw [ht] at htk
  split at h
  · rename_i v hv
    cases h
    refine ⟨⟨hc.now, hc.nowV, fun u hu => ?_⟩, by simp [ht, hp]; omega, .inl ⟨rfl, h13⟩, by simp, by simp; omega⟩
    simp only [List.mem_append, List.mem_singleton] at hu; rcases hu with hu | rfl
    · exact hc.stkV u (List.mem_of_mem_take hu)
    · exact calcS_isV hv
  · cases h
end
end Go.Proofs.YtpfjlifneibhfaaGreat.AL
namespace Go.Proofs.YtpfjlifneibhfaaGreat.AL
structure CertAt (len vars : Int) (ht : Nat → Int) (x : Ins) (i : Nat) : Prop where
  ok : insOk x i len vars = true
  tk : takes x.op ≤ ht i
  pt : ht i - takes x.op + puts x.op ≤ 64
  nxt : x.op ≠ 13 → ht (i + 1) = ht i - takes x.op + puts x.op
  jmp : x.op = 12 ∨ x.op = 13 → ht x.n.toNat = ht i - takes x.op + puts x.op
structure Cert (l : List Ins) (vars : Int) (ht : Nat → Int) : Prop where
  len : l.length ≤ 4000
  zero : ht 0 = 0
  at' : ∀ (i : Nat) (x : Ins), l[i]? = some x → CertAt l.length vars ht x i
  last : ht l.length = 0
theorem stepS_cert {vs : List Vr} {i0 i1 i2 i3 : Int} {l : List Ins} {ht : Nat → Int} (hc : Cert l vs.length ht) {c c' : Cf} {x : Ins} (hx : l[c.at']? = some x) (hk : CfOk vs c) (hh : (c.stk.length : Int) = ht c.at') (hi : ∀ j, isV (inS i0 i1 i2 i3 j)) (h : stepS vs i0 i1 i2 i3 x c = .ok c') :
    CfOk vs c' ∧ (c'.stk.length : Int) = ht c'.at' ∧ c.at' < c'.at' ∧ c'.at' ≤ l.length := by
  have hlt := (List.getElem?_eq_some_iff.1 hx).1
  have hca := hc.at' _ _ hx
  obtain ⟨a1, a2, a3, a4, a5⟩ := stepS_ok h hk ⟨hca.ok, by rw [hh]; exact hca.tk, by rw [hh]; exact hca.pt⟩ hi
  refine ⟨a1, ?_, a4, by omega⟩
  rcases a3 with ⟨h1, h2⟩ | ⟨h1, h2⟩
  · rw [h1, hca.nxt h2]; omega
  · rw [h1, hca.jmp h2]; omega
end Go.Proofs.YtpfjlifneibhfaaGreat.AL
namespace Go.Proofs.YtpfjlifneibhfaaGreat.AL
end Go.Proofs.YtpfjlifneibhfaaGreat.AL
namespace Go.Proofs.YtpfjlifneibhfaaGreat.AL
abbrev amS (a : Int) : Int := if a < -a then -a else a
abbrev bmS (b : Int) : Int := if (if 1 < b then b else 1) < -b then -b else (if 1 < b then b else 1)
theorem am_abs (a : Int) : amS a = (a.natAbs : Int) := by unfold amS; split <;> omega
theorem bm_abs (b : Int) : bmS b = max 1 (b.natAbs : Int) := by unfold bmS; repeat' split <;> omega
theorem prod_guard {a b : Int} (ha : isV a) (hb : isV b) (h0 : a ≠ 0) :
    (amS a ≤ (1000000000000 : Int).tdiv (bmS b) ∧ isV (a * b) ∧ prodS a b = a * b ∧ (a * b).tdiv a = b) ∨ ((1000000000000 : Int).tdiv (bmS b) < amS a ∧ prodS a b = 1000000000001) := by
  have hq : ∀ m : Int, 0 < m → (1000000000000 : Int).tdiv m = 1000000000000 / m := fun m hm => Int.tdiv_eq_ediv_of_nonneg (by omega)
  have hbm : 0 < bmS b := by rw [bm_abs]; omega
  have hbm2 : b ≠ 0 → bmS b = (b.natAbs : Int) := fun h => by rw [bm_abs]; omega
  have ham : amS a = (a.natAbs : Int) := am_abs a
  have hap : 0 < amS a := by rw [ham]; omega
  rw [hq _ hbm]
  have key : amS a ≤ 1000000000000 / bmS b ↔ amS a * bmS b ≤ 1000000000000 := Int.le_ediv_iff_mul_le hbm
  have nn : (-1000000000000 : Int).tdiv (amS a) = -((1000000000000 : Int) / amS a) := by rw [← hq _ hap]; exact Int.neg_tdiv _ _
  rcases Int.lt_or_le (1000000000000 / bmS b) (amS a) with h | h
  · refine .inr ⟨h, ?_⟩
    have h1 : 1000000000000 < amS a * bmS b := by
      rcases Int.lt_or_le 1000000000000 (amS a * bmS b) with h2 | h2
      · exact h2
      · have := key.2 h2; omega
    have hb0 : b ≠ 0 := by
      intro e
      subst e
      have : bmS 0 = 1 := by decide
      rw [this] at h1; rw [ham] at h1; omega
    refine prodS_out h0 (m := amS a) rfl ?_
    rw [hq _ hap, nn]
    rw [hbm2 hb0] at h1
    have h3 : ¬ (b.natAbs : Int) ≤ 1000000000000 / amS a := by
      intro h4
      have := (Int.le_ediv_iff_mul_le hap).1 h4
      rw [Int.mul_comm] at this; omega
    omega
  · refine .inl ⟨h, ?_⟩
    have h1 := key.1 h
    have hle : (a.natAbs : Int) * (b.natAbs : Int) ≤ 1000000000000 := by
      rw [ham] at h1
      have h2 : (b.natAbs : Int) ≤ bmS b := by rw [bm_abs]; omega
      have := Int.mul_le_mul_of_nonneg_left h2 (show (0 : Int) ≤ (a.natAbs : Int) by omega)
      omega
    have habs : ((a * b).natAbs : Int) ≤ 1000000000000 := by rw [Int.natAbs_mul]; push_cast; exact hle
    refine ⟨by omega, ?_, Int.mul_tdiv_cancel_left b h0⟩
    refine prodS_in h0 (m := amS a) rfl ?_
    rw [hq _ hap, nn]
    have h3 : (b.natAbs : Int) ≤ 1000000000000 / amS a := by
      rw [Int.le_ediv_iff_mul_le hap, ham, Int.mul_comm]; exact hle
    omega
end Go.Proofs.YtpfjlifneibhfaaGreat.AL
namespace Go.Proofs.YtpfjlifneibhfaaGreat.Y
open Go.Proofs.YtpfjlifneibhfaaGreat.AL Go.Proofs Go
attribute [local irreducible] AWP AWL AWG AWR AWE AWX AWO AWSeq AWSG AWSR AWSO AWSE AWSF GoodP OGW OGR OGE OGX PGW PGR PGE Wk AWLoop AWPD AWLD
/-- What a failure is, as it is thrown. -/
abbrev xF (e : Int) : AV := .pv (.sc (.iface 81 (.agg #[.int .i64 e])))
theorem Cv.ifcF (e : Int) : Cv (.ifc 81 (.agg [.i e])) (xF e) := by
  intro w B S H v hv
  cases hv with
  | ifc h =>
    cases h with
    | @agg _ vs hl h1 h2 =>
      obtain ⟨x, rfl⟩ : ∃ x, vs = [x] := by match vs, hl with | [x], _ => exact ⟨x, rfl⟩
      have := h2 0 (.i e) x rfl rfl
      cases this with | pv h => cases h with | sc => exact .pv (.sc rfl)
theorem fail_ok (e : Int) (H0 : List AObj) : ARun Tryz.prog 59 [.b false, .i e] H0 (.ret (.tup []) H0) := by
  (refine ARun.intro Tryz.func59 rfl Tryz.call59 Tryz.ntmps59 Tryz.results59 ?_; simp only [List.length_cons, List.length_nil, List.length_map, Nat.reduceAdd, Nat.reduceSub, List.replicate_succ, List.replicate_zero, List.cons_append, List.nil_append])
  (refine wk ?_; (repeat' first | exact True.intro | refine Lf.mk ?_ ?_); all_goals intro hP)
  (refine resX ?_; try exact True.intro)
theorem fail_pan (e : Int) (H0 : List AObj) : ARun Tryz.prog 59 [.b true, .i e] H0 (.pan (xF e) H0) := by
  (refine ARun.intro Tryz.func59 rfl Tryz.call59 Tryz.ntmps59 Tryz.results59 ?_; simp only [List.length_cons, List.length_nil, List.length_map, Nat.reduceAdd, Nat.reduceSub, List.replicate_succ, List.replicate_zero, List.cons_append, List.nil_append])
  (refine wk ?_; (repeat' first | exact True.intro | refine Lf.mk ?_ ?_); all_goals intro hP)
  exact ⟨_, rfl, Fin.pureC0 0 (by simp only [AV.low, List.map_cons, List.map_nil]; exact Cv.ifcF e)⟩
theorem isValue_run (n : Int) (H0 : List AObj) : ARun Tryz.prog 65 [.i n] H0 (.ret (.b (decide (isV n))) H0) := by
  have e : decide (isV n) = (decide (-1000000000000 ≤ n) && decide (n ≤ 1000000000000)) := by rw [Bool.eq_iff_iff]; simp [isV]
  rw [e]
  by_cases h1 : -1000000000000 ≤ n <;> by_cases h2 : n ≤ 1000000000000
  all_goals
    (refine ARun.intro Tryz.func65 rfl Tryz.call65 Tryz.ntmps65 Tryz.results65 ?_; simp only [List.length_cons, List.length_nil, List.length_map, Nat.reduceAdd, Nat.reduceSub, List.replicate_succ, List.replicate_zero, List.cons_append, List.nil_append])
    (have ww1 := h1; have ww2 := h2; refine wk ?_; clear ww1 ww2; (repeat' first | exact True.intro | refine Lf.mk ?_ ?_); all_goals intro hP)
    (refine resX ?_; try exact True.intro)
    all_goals simp [h1, h2]
theorem down_run (a b : Int) (ha : -1000000000000 ≤ a ∧ a ≤ 1000000000000) (hb : -1000000000000 ≤ b ∧ b ≤ 1000000000000) (h0 : b ≠ 0) (H0 : List AObj) : ARun Tryz.prog 61 [.i a, .i b] H0 (.ret (.i (downS a b)) H0) := by
  have hq := tdiv_bd (a := a) (b := b) ha h0
  have w1 : IntKind.i64.wrap (a.tdiv b) = a.tdiv b := wrap_of (by omega) (by omega)
  have w3 : IntKind.i64.wrap (a.tdiv b - 1) = a.tdiv b - 1 := wrap_of (by omega) (by omega)
  have he : b * a.tdiv b + a.tmod b = a := Int.mul_tdiv_add_tmod a b
  rw [Int.mul_comm] at he
  have hmod : (a.tmod b).natAbs ≤ a.natAbs := by rw [Int.natAbs_tmod]; exact Nat.mod_le _ _
  have w2 : IntKind.i64.wrap (a.tdiv b * b) = a.tdiv b * b := wrap_of (by omega) (by omega)
  have e1 : (a.tdiv b * b != a) = decide (a.tmod b ≠ 0) := by
    rw [Bool.eq_iff_iff]; simp; omega
  have hb0 : (b == 0) = false := by simpa using h0
  by_cases hA : a < 0 <;> by_cases hB : b < 0 <;> by_cases hM : a.tmod b = 0
  all_goals
    simp only [hM, ne_eq, not_true_eq_false, not_false_eq_true, decide_true, decide_false] at e1
    (refine ARun.intro Tryz.func61 rfl Tryz.call61 Tryz.ntmps61 Tryz.results61 ?_; simp only [List.length_cons, List.length_nil, List.length_map, Nat.reduceAdd, Nat.reduceSub, List.replicate_succ, List.replicate_zero, List.cons_append, List.nil_append])
    (have ww1 := hA; have ww2 := hB; have ww3 := e1; have ww4 := hb0; have ww5 := h0; have ww6 := w1; have ww7 := w2; have ww8 := w3; refine wk ?_; clear ww1 ww2 ww3 ww4 ww5 ww6 ww7 ww8; (repeat' first | exact True.intro | refine Lf.mk ?_ ?_); all_goals intro hP)
    (refine resX ?_; try exact True.intro)
    all_goals simp [downS, hM, hA, hB]
theorem op1_run (a b : Int) (ha : isV a) (hb' : isV b) (H0 : List AObj) : ARun Tryz.prog 56 [.i a, .i b] H0 (.ret (.i (a + b)) H0) := by
  have w1 : IntKind.i64.wrap (a + b) = a + b := wrap_of (by omega) (by omega)
  (refine ARun.intro Tryz.func56 rfl Tryz.call56 Tryz.ntmps56 Tryz.results56 ?_; simp only [List.length_cons, List.length_nil, List.length_map, Nat.reduceAdd, Nat.reduceSub, List.replicate_succ, List.replicate_zero, List.cons_append, List.nil_append])
  (have ww1 := w1; refine wk ?_; clear ww1; (repeat' first | exact True.intro | refine Lf.mk ?_ ?_); all_goals intro hP)
  (refine resX ?_; try exact True.intro)
theorem op2_run (a b : Int) (ha : isV a) (hb' : isV b) (H0 : List AObj) : ARun Tryz.prog 57 [.i a, .i b] H0 (.ret (.i (a - b)) H0) := by
  have w1 : IntKind.i64.wrap (a - b) = a - b := wrap_of (by omega) (by omega)
  (refine ARun.intro Tryz.func57 rfl Tryz.call57 Tryz.ntmps57 Tryz.results57 ?_; simp only [List.length_cons, List.length_nil, List.length_map, Nat.reduceAdd, Nat.reduceSub, List.replicate_succ, List.replicate_zero, List.cons_append, List.nil_append])
  (have ww1 := w1; refine wk ?_; clear ww1; (repeat' first | exact True.intro | refine Lf.mk ?_ ?_); all_goals intro hP)
  (refine resX ?_; try exact True.intro)
theorem op3_ok (a b : Int) (ha : isV a) (hb' : isV b) (h : isV (prodS a b)) (H0 : List AObj) : ARun Tryz.prog 58 [.i a, .i b] H0 (.ret (.i (prodS a b)) H0) := by
  have fo := fun H => fail_ok 3 H
  by_cases h0 : a = 0
  · subst h0
    have e : prodS 0 b = 0 := rfl
    rw [e]
    have w1 : IntKind.i64.wrap (0 * b) = 0 := by rw [Int.zero_mul]; rfl
    (refine ARun.intro Tryz.func58 rfl Tryz.call58 Tryz.ntmps58 Tryz.results58 ?_; simp only [List.length_cons, List.length_nil, List.length_map, Nat.reduceAdd, Nat.reduceSub, List.replicate_succ, List.replicate_zero, List.cons_append, List.nil_append])
    (have ww1 := w1; have cc1 := fun z1 => fo z1; refine wk ?_; clear ww1 cc1; (repeat' first | exact True.intro | refine Lf.mk ?_ ?_); all_goals intro hP)
    (refine resX ?_; try exact True.intro)
  · rcases prod_guard ha hb' h0 with ⟨g, hv, e, ed⟩ | ⟨_, e⟩
    · rw [e]
      have hne : (a != 0) = true := by simpa using h0
      have w1 : IntKind.i64.wrap (a * b) = a * b := wrap_of (by omega) (by omega)
      have w2 : IntKind.i64.wrap b = b := wrap_of (by omega) (by omega)
      have w3 : IntKind.i64.wrap (-a) = -a := wrap_of (by omega) (by omega)
      have w4 : IntKind.i64.wrap (-b) = -b := wrap_of (by omega) (by omega)
      have bz : ¬ (bmS b = 0) := by rw [bm_abs]; omega
      have bd := tdiv_bd (a := 1000000000000) (b := bmS b) ⟨by omega, by omega⟩ bz
      have w5 : IntKind.i64.wrap ((1000000000000 : Int).tdiv (bmS b)) = (1000000000000 : Int).tdiv (bmS b) := wrap_of (by omega) (by omega)
      have hg : ¬ ((1000000000000 : Int).tdiv (bmS b) < amS a) := by omega
      have hbb : (b != b) = false := by simp
      (refine ARun.intro Tryz.func58 rfl Tryz.call58 Tryz.ntmps58 Tryz.results58 ?_; simp only [List.length_cons, List.length_nil, List.length_map, Nat.reduceAdd, Nat.reduceSub, List.replicate_succ, List.replicate_zero, List.cons_append, List.nil_append])
      (have ww1 := hne; have ww2 := h0; have ww3 := w1; have ww4 := w2; have ww5 := w3; have ww6 := w4; have ww7 := w5; have ww8 := ed; have ww9 := bz; have ww10 := hg; have ww11 := hbb; have cc1 := fun z1 => fo z1; refine wk ?_; clear ww1 ww2 ww3 ww4 ww5 ww6 ww7 ww8 ww9 ww10 ww11 cc1; (repeat' first | exact True.intro | refine Lf.mk ?_ ?_); all_goals intro hP)
      (refine resX ?_; try exact True.intro)
    · rw [e] at h; exact absurd h.2 (by omega)
theorem op3_bad (a b : Int) (ha : isV a) (hb' : isV b) (h : ¬ isV (prodS a b)) (H0 : List AObj) : ARun Tryz.prog 58 [.i a, .i b] H0 (.pan (xF 3) H0) := by
  have fp := fun H => fail_pan 3 H
  by_cases h0 : a = 0
  · subst h0
    exact absurd (show isV (prodS 0 b) by rw [show prodS 0 b = 0 from rfl]; exact ⟨by omega, by omega⟩) h
  · rcases prod_guard ha hb' h0 with ⟨g, hv, e, ed⟩ | ⟨g, _⟩
    · rw [e] at h; exact absurd hv h
    · have hne : (a != 0) = true := by simpa using h0
      have w3 : IntKind.i64.wrap (-a) = -a := wrap_of (by omega) (by omega)
      have w4 : IntKind.i64.wrap (-b) = -b := wrap_of (by omega) (by omega)
      have bz : ¬ (bmS b = 0) := by rw [bm_abs]; omega
      have bd := tdiv_bd (a := 1000000000000) (b := bmS b) ⟨by omega, by omega⟩ bz
      have w5 : IntKind.i64.wrap ((1000000000000 : Int).tdiv (bmS b)) = (1000000000000 : Int).tdiv (bmS b) := wrap_of (by omega) (by omega)
      cases hx : (IntKind.i64.wrap ((IntKind.i64.wrap (a * b)).tdiv a) != b)
      all_goals
        (refine ARun.intro Tryz.func58 rfl Tryz.call58 Tryz.ntmps58 Tryz.results58 ?_; simp only [List.length_cons, List.length_nil, List.length_map, Nat.reduceAdd, Nat.reduceSub, List.replicate_succ, List.replicate_zero, List.cons_append, List.nil_append])
        (have ww1 := hne; have ww2 := h0; have ww3 := w3; have ww4 := w4; have ww5 := w5; have ww6 := bz; have ww7 := g; have ww8 := hx; have cc1 := fun z1 => fp z1; refine wk ?_; clear ww1 ww2 ww3 ww4 ww5 ww6 ww7 ww8 cc1; (repeat' first | exact True.intro | refine Lf.mk ?_ ?_); all_goals intro hP)
        (refine panX ?_; try exact True.intro)
theorem op4_ok (a b : Int) (ha : isV a) (hb' : isV b) (h : b ≠ 0) (H0 : List AObj) : ARun Tryz.prog 60 [.i a, .i b] H0 (.ret (.i (downS a b)) H0) := by
  have fo := fun H => fail_ok 14 H
  have hb0 : (b == 0) = false := by simpa using h
  have hd := fun H => down_run a b ha hb' h H
  (refine ARun.intro Tryz.func60 rfl Tryz.call60 Tryz.ntmps60 Tryz.results60 ?_; simp only [List.length_cons, List.length_nil, List.length_map, Nat.reduceAdd, Nat.reduceSub, List.replicate_succ, List.replicate_zero, List.cons_append, List.nil_append])
  (have ww1 := hb0; have cc1 := fun z1 => fo z1; have cc2 := fun z1 => hd z1; refine wk ?_; clear ww1 cc1 cc2; (repeat' first | exact True.intro | refine Lf.mk ?_ ?_); all_goals intro hP)
  (refine resX ?_; try exact True.intro)
theorem op4_bad (a : Int) (H0 : List AObj) : ARun Tryz.prog 60 [.i a, .i 0] H0 (.pan (xF 14) H0) := by
  have fp := fun H => fail_pan 14 H
  (refine ARun.intro Tryz.func60 rfl Tryz.call60 Tryz.ntmps60 Tryz.results60 ?_; simp only [List.length_cons, List.length_nil, List.length_map, Nat.reduceAdd, Nat.reduceSub, List.replicate_succ, List.replicate_zero, List.cons_append, List.nil_append])
  (have cc1 := fun z1 => fp z1; refine wk ?_; clear cc1; (repeat' first | exact True.intro | refine Lf.mk ?_ ?_); all_goals intro hP)
  (refine panX ?_; try exact True.intro)
theorem op5_ok (a b : Int) (ha : isV a) (hb' : isV b) (h : b ≠ 0) (H0 : List AObj) : ARun Tryz.prog 62 [.i a, .i b] H0 (.ret (.i (-downS (-a) b)) H0) := by
  have fo := fun H => fail_ok 14 H
  have hb0 : (b == 0) = false := by simpa using h
  have ha2 : isV (-a) := ⟨by omega, by omega⟩
  have hd := fun H => down_run (-a) b ha2 hb' h H
  have hb2 := downS_bd (a := -a) (b := b) ha2 h
  have w1 : IntKind.i64.wrap (-a) = -a := wrap_of (by omega) (by omega)
  have w2 : IntKind.i64.wrap (-downS (-a) b) = -downS (-a) b := wrap_of (by omega) (by omega)
  (refine ARun.intro Tryz.func62 rfl Tryz.call62 Tryz.ntmps62 Tryz.results62 ?_; simp only [List.length_cons, List.length_nil, List.length_map, Nat.reduceAdd, Nat.reduceSub, List.replicate_succ, List.replicate_zero, List.cons_append, List.nil_append])
  (have ww1 := hb0; have ww2 := w1; have ww3 := w2; have cc1 := fun z1 => fo z1; have cc2 := fun z1 => hd z1; refine wk ?_; clear ww1 ww2 ww3 cc1 cc2; (repeat' first | exact True.intro | refine Lf.mk ?_ ?_); all_goals intro hP)
  (refine resX ?_; try exact True.intro)
theorem op5_bad (a : Int) (H0 : List AObj) : ARun Tryz.prog 62 [.i a, .i 0] H0 (.pan (xF 14) H0) := by
  have fp := fun H => fail_pan 14 H
  (refine ARun.intro Tryz.func62 rfl Tryz.call62 Tryz.ntmps62 Tryz.results62 ?_; simp only [List.length_cons, List.length_nil, List.length_map, Nat.reduceAdd, Nat.reduceSub, List.replicate_succ, List.replicate_zero, List.cons_append, List.nil_append])
  (have cc1 := fun z1 => fp z1; refine wk ?_; clear cc1; (repeat' first | exact True.intro | refine Lf.mk ?_ ?_); all_goals intro hP)
  (refine panX ?_; try exact True.intro)
theorem op6_run (a b : Int) (H0 : List AObj) : ARun Tryz.prog 63 [.i a, .i b] H0 (.ret (.i (if b < a then b else a)) H0) := by
  (refine ARun.intro Tryz.func63 rfl Tryz.call63 Tryz.ntmps63 Tryz.results63 ?_; simp only [List.length_cons, List.length_nil, List.length_map, Nat.reduceAdd, Nat.reduceSub, List.replicate_succ, List.replicate_zero, List.cons_append, List.nil_append])
  (refine wk ?_; (repeat' first | exact True.intro | refine Lf.mk ?_ ?_); all_goals intro hP)
  (refine resX ?_; try exact True.intro)
theorem op7_run (a b : Int) (H0 : List AObj) : ARun Tryz.prog 64 [.i a, .i b] H0 (.ret (.i (if a < b then b else a)) H0) := by
  (refine ARun.intro Tryz.func64 rfl Tryz.call64 Tryz.ntmps64 Tryz.results64 ?_; simp only [List.length_cons, List.length_nil, List.length_map, Nat.reduceAdd, Nat.reduceSub, List.replicate_succ, List.replicate_zero, List.cons_append, List.nil_append])
  (refine wk ?_; (repeat' first | exact True.intro | refine Lf.mk ?_ ?_); all_goals intro hP)
  (refine resX ?_; try exact True.intro)
/-- The table of operations. -/
def opsT : List (Int × Value) := [(4, .func (.func 56) #[] #[]), (5, .func (.func 57) #[] #[]), (6, .func (.func 58) #[] #[]), (7, .func (.func 60) #[] #[]), (8, .func (.func 62) #[] #[]), (9, .func (.func 63) #[] #[]), (10, .func (.func 64) #[] #[])]
theorem operations_run (H0 : List AObj) : ARun Tryz.prog 37 [] H0 (.ret (.mp H0.length) (H0 ++ [.imap opsT])) := by
  (refine ARun.intro Tryz.func37 rfl Tryz.call37 Tryz.ntmps37 Tryz.results37 ?_; simp only [List.length_cons, List.length_nil, List.length_map, Nat.reduceAdd, Nat.reduceSub, List.replicate_succ, List.replicate_zero, List.cons_append, List.nil_append])
  (refine wk ?_; (repeat' first | exact True.intro | refine Lf.mk ?_ ?_); all_goals intro hP)
  change RetQ _ _ _ _ _ _ (H0 ++ [AObj.imap opsT])
  exact ⟨_, rfl, _, rfl, Fin.keep (L := [.imap opsT]) 1 0 (by simp) (by intro o ho; simp only [List.take_succ_cons, List.take_zero, List.mem_cons, List.not_mem_nil, or_false] at ho; subst ho; trivial) (by simp [AV.low, aOne, aev])⟩
end Go.Proofs.YtpfjlifneibhfaaGreat.Y
namespace Go.Proofs.YtpfjlifneibhfaaGreat.AL
def wUnits : List ByteArray := [⟨#[110, 111, 110, 101]⟩, ⟨#[112, 97, 99, 107, 101, 116, 115]⟩, ⟨#[98, 121, 116, 101, 115]⟩, ⟨#[116, 105, 109, 101]⟩, ⟨#[114, 97, 116, 101]⟩]
def wEvents : List ByteArray := [⟨#[97, 99, 107]⟩, ⟨#[108, 111, 115, 115]⟩, ⟨#[109, 97, 114, 107]⟩, ⟨#[116, 105, 109, 101, 111, 117, 116]⟩, ⟨#[112, 97, 116, 104]⟩]
def wPolicies : List ByteArray := [⟨#[116, 97, 105, 108]⟩, ⟨#[101, 97, 114, 108, 121]⟩, ⟨#[115, 111, 106, 111, 117, 114, 110]⟩, ⟨#[105, 110, 116, 101, 103, 114, 97, 108]⟩, ⟨#[100, 101, 102, 105, 99, 105, 116]⟩, ⟨#[100, 117, 97, 108]⟩]
def wInputs : List ByteArray := [⟨#[97, 99, 107, 101, 100]⟩, ⟨#[114, 116, 116]⟩, ⟨#[115, 105, 122, 101]⟩, ⟨#[116, 111, 116, 97, 108]⟩]
def wOthers : List ByteArray := [⟨#[108, 105, 110, 107]⟩, ⟨#[112, 97, 116, 104]⟩, ⟨#[102, 108, 111, 119]⟩, ⟨#[112, 114, 111, 103, 114, 97, 109]⟩, ⟨#[100, 101, 108, 97, 121]⟩, ⟨#[114, 111, 111, 109]⟩, ⟨#[98, 97, 99, 107]⟩, ⟨#[112, 97, 116, 104, 115]⟩, ⟨#[119, 105, 110, 100, 111, 119]⟩, ⟨#[115, 116, 97, 114, 116]⟩, ⟨#[112, 97, 99, 101]⟩, ⟨#[118, 97, 114]⟩, ⟨#[111, 110]⟩, ⟨#[105, 102]⟩, ⟨#[101, 108, 115, 101]⟩, ⟨#[109, 105, 110]⟩, ⟨#[109, 97, 120]⟩, ⟨#[117, 112]⟩]
/-- Two texts are the same, as the machine compares them. -/
def eqB (a b : ByteArray) : Bool := a.toList == b.toList
theorem eqB_comm (a b : ByteArray) : eqB a b = eqB b a := by
  unfold eqB
  rw [Bool.eq_iff_iff, beq_iff_eq, beq_iff_eq]
  exact eq_comm
/-- A text's place in a list, or -1. -/
def placeS : List ByteArray → ByteArray → Int → Int
  | [], _, _ => -1
  | w :: l, s, i => if eqB w s = true then i else placeS l s (i + 1)
def inB (l : List ByteArray) (s : ByteArray) : Bool := l.any fun w => eqB w s
theorem placeS_nn {l : List ByteArray} {s : ByteArray} : ∀ {i : Int}, 0 ≤ i → (0 ≤ placeS l s i ↔ inB l s = true) := by
  induction l with
  | nil => intro i hi; simp [placeS, inB]
  | cons w l ih =>
    intro i hi
    unfold placeS
    have := ih (i := i + 1) (by omega)
    by_cases h : eqB w s = true
    · simp [h, inB, hi]
    · simp only [h, if_false, Bool.false_eq_true, this]
      unfold inB
      rw [List.any_cons]
      simp [h]
def keyB (s : ByteArray) : Bool := inB wUnits s || (inB wEvents s || (inB wPolicies s || (inB wInputs s || inB wOthers s)))
def charS (i : Nat) (c : Int) : Bool := (decide (97 ≤ c) && decide (c ≤ 122)) || (decide (i ≠ 0) && ((decide (48 ≤ c) && decide (c ≤ 57)) || c == 95))
def charsS : List Int → Nat → Bool
  | [], _ => true
  | c :: r, i => charS i c && charsS r (i + 1)
/-- A text is a name of one's own. -/
def nameB (s : ByteArray) : Bool := charsS (bytesZ s) 0 && (decide (1 ≤ s.size) && (decide (s.size ≤ 12) && !keyB s))
def varB (v : Vr) : Bool := nameB v.name && decide (0 ≤ v.unit ∧ v.unit ≤ 4 ∧ 0 ≤ v.low ∧ v.low ≤ v.init ∧ v.init ≤ v.high ∧ v.high ≤ 1000000000)
/-- A variable's place, or -1. -/
def findV : List Vr → ByteArray → Int → Int
  | [], _, _ => -1
  | v :: l, s, i => if eqB v.name s = true then i else findV l s (i + 1)
/-- No name stands twice. -/
def onceB : List Vr → List ByteArray → Bool
  | [], _ => true
  | v :: l, seen => !(inB seen v.name) && onceB l (seen ++ [v.name])
def usesB (l : List Vr) (k unit : Int) : Bool := decide (0 ≤ k ∧ k < l.length) && (((l[k.toNat]?).map (·.unit)) == some unit)
/-- A program is valid. -/
def validB (p : Prg) : Bool :=
  nameB p.name && (decide (1 ≤ p.vars.length) && (decide (p.vars.length ≤ 12) && ((p.vars.all varB) && (onceB p.vars [] && (decide (checkS p = (-1, 0)) && (usesB p.vars p.window 1 && (decide (p.pace = -1) || usesB p.vars p.pace 4)))))))
end Go.Proofs.YtpfjlifneibhfaaGreat.AL
namespace Go.Proofs.YtpfjlifneibhfaaGreat.AL
section
variable {len vars : Int} {x : Ins} {i : Nat} {hs : List Int} {y : Int}
end
/-- Heights as they may be. -/
def HsOk (hs : List Int) : Prop := ∀ y ∈ hs, -1 ≤ y ∧ y ≤ 64
theorem HsOk.get {hs : List Int} (h : HsOk hs) {i : Nat} {y : Int} (hy : hs[i]? = some y) : -1 ≤ y ∧ y ≤ 64 := h y (List.mem_of_getElem? hy)
theorem HsOk.set {hs : List Int} (h : HsOk hs) (a : Nat) {y : Int} (hy : -1 ≤ y ∧ y ≤ 64) : HsOk (hs.set a y) := by
  intro z hz
  rcases List.mem_or_eq_of_mem_set hz with hz | rfl
  · exact h z hz
  · exact hy
theorem get_some {hs : List Int} {i : Nat} (h : i < hs.length) : ∃ y, hs[i]? = some y := ⟨hs[i], List.getElem?_eq_getElem h⟩
end Go.Proofs.YtpfjlifneibhfaaGreat.AL
namespace Go.Proofs.YtpfjlifneibhfaaGreat.AL
end Go.Proofs.YtpfjlifneibhfaaGreat.AL
namespace Go.Proofs.YtpfjlifneibhfaaGreat.AL
def callOk (x : Cal) : Bool := decide (0 ≤ x.ev ∧ x.ev < 5 ∧ 1 ≤ x.i0 ∧ x.i0 ≤ 1000 ∧ 1 ≤ x.i1 ∧ x.i1 ≤ 10000000 ∧ 1 ≤ x.i2 ∧ x.i2 ≤ 10000 ∧ 0 ≤ x.i3 ∧ x.i3 ≤ 4000)
def runE (r : Except Int (List Int)) : Int := match r with
  | .ok _ => 0
  | .error e => e
def runL (r : Except Int (List Int)) : List Int := match r with
  | .ok s => s
  | .error _ => []
section
variable {vs : List Vr} {i0 i1 i2 i3 : Int} {l : List Ins}
theorem trace_ok {f n : Nat} {c c' : Cf} {x : Ins} (h : l[c.at']? = some x) (hs : stepS vs i0 i1 i2 i3 x c = .ok c') : traceS vs i0 i1 i2 i3 l (f + 1) c n = traceS vs i0 i1 i2 i3 l f c' (n + 1) := by
  simp only [traceS, h, hs]
/-- Enough fuel, and one more: the same. -/
structure Going (vs : List Vr) (i0 i1 i2 i3 : Int) (l : List Ins) (ht : Nat → Int) (c : Cf) (n : Nat) : Prop where
  ok : CfOk vs c
  ht : (c.stk.length : Int) = ht c.at'
  le : c.at' ≤ l.length
  nle : n ≤ c.at'
end
end Go.Proofs.YtpfjlifneibhfaaGreat.AL
namespace Go.Proofs.YtpfjlifneibhfaaGreat.AL
/-- Where a run of a handler stands. -/
structure TInv (vs : List Vr) (i0 i1 i2 i3 : Int) (l : List Ins) (ht : Nat → Int) (st : List Int) (c : Cf) (n : Nat) : Prop where
  ok : CfOk vs c
  ht : (c.stk.length : Int) = ht c.at'
  le : c.at' ≤ l.length
  nle : n ≤ c.at'
  tr : ∃ f, l.length < f + c.at' ∧ traceS vs i0 i1 i2 i3 l (l.length + 1) ⟨st, [], 0⟩ 0 = traceS vs i0 i1 i2 i3 l f c n
section
variable {vs : List Vr} {i0 i1 i2 i3 : Int} {l : List Ins} {ht : Nat → Int} {st : List Int} {c c' : Cf} {n : Nat} {x : Ins}
theorem TInv.next (hc : Cert l vs.length ht) (hi : ∀ j, isV (inS i0 i1 i2 i3 j)) (t : TInv vs i0 i1 i2 i3 l ht st c n) (hx : l[c.at']? = some x) (hs : stepS vs i0 i1 i2 i3 x c = .ok c') :
    TInv vs i0 i1 i2 i3 l ht st c' (n + 1) ∧ l.length - c'.at' < l.length - c.at' := by
  obtain ⟨a1, a2, a3, a4⟩ := stepS_cert hc hx t.ok t.ht hi hs
  obtain ⟨f, f1, f2⟩ := t.tr
  have hlt := (List.getElem?_eq_some_iff.1 hx).1
  obtain ⟨g, rfl⟩ : ∃ g, f = g + 1 := ⟨f - 1, by omega⟩
  have := t.nle
  exact ⟨⟨a1, a2, a4, by omega, ⟨g, by omega, by rw [f2, trace_ok hx hs]⟩⟩, by omega⟩
end
end Go.Proofs.YtpfjlifneibhfaaGreat.AL
namespace Go.Proofs.YtpfjlifneibhfaaGreat.AL
def dV : Vr := ⟨default, 0, 0, 0, 0⟩
theorem getEV {l : List Vr} {k : Nat} (h : k < l.length) : l[k]? = some (l.getD k dV) := by
  rw [List.getD_eq_getElem?_getD, List.getElem?_eq_getElem h]; rfl
end Go.Proofs.YtpfjlifneibhfaaGreat.AL
namespace Go.Proofs.YtpfjlifneibhfaaGreat.AL
theorem call_ev {x : Cal} (h : callOk x = true) : 0 ≤ x.ev ∧ x.ev < 5 := by
  unfold callOk at h
  have h := of_decide_eq_true h
  exact ⟨h.1, h.2.1⟩
end Go.Proofs.YtpfjlifneibhfaaGreat.AL
namespace Go.Proofs.YtpfjlifneibhfaaGreat.AL
end Go.Proofs.YtpfjlifneibhfaaGreat.AL
namespace Go.Proofs.YtpfjlifneibhfaaGreat.AL
end Go.Proofs.YtpfjlifneibhfaaGreat.AL
namespace Go.Proofs.YtpfjlifneibhfaaGreat.AL
end Go.Proofs.YtpfjlifneibhfaaGreat.AL
namespace Go.Proofs.YtpfjlifneibhfaaGreat.AL
/-- An instruction at k leads to j. -/
def leads (x : Ins) (k j : Nat) : Prop := (x.op ≠ 13 ∧ j = k + 1) ∨ ((x.op = 12 ∨ x.op = 13) ∧ j = x.n.toNat)
end Go.Proofs.YtpfjlifneibhfaaGreat.AL
namespace Go.Proofs.YtpfjlifneibhfaaGreat.AL
section
variable {vs : List Vr} {i0 i1 i2 i3 : Int} {l : List Ins} {ht : Nat → Int}
end
end Go.Proofs.YtpfjlifneibhfaaGreat.AL
namespace Go.Proofs.YtpfjlifneibhfaaGreat.AL
end Go.Proofs.YtpfjlifneibhfaaGreat.AL
namespace Go.Proofs.YtpfjlifneibhfaaGreat.AL
/-- A piece of code behind so many instructions: it comes from one height to another. -/
structure SegAt (len vars : Int) (off n : Nat) (ht : Nat → Int) (x : Ins) (i : Nat) : Prop where
  ok : insOk x (off + i : Nat) len vars = true
  tk : takes x.op ≤ ht i
  pt : ht i - takes x.op + puts x.op ≤ 64
  nxt : x.op ≠ 13 → ht (i + 1) = ht i - takes x.op + puts x.op
  jmp : x.op = 12 ∨ x.op = 13 → ∃ j, j ≤ n ∧ x.n = (off + j : Nat) ∧ ht j = ht i - takes x.op + puts x.op
def Seg (len vars : Int) (off : Nat) (c : List Ins) (h0 h1 : Int) : Prop :=
  ∃ ht : Nat → Int, ht 0 = h0 ∧ ht c.length = h1 ∧ (∀ i x, c[i]? = some x → SegAt len vars off c.length ht x i) ∧
    ∀ i, i ≤ c.length → i = 0 ∨ ∃ k x, k < i ∧ c[k]? = some x ∧ leads x (off + k) (off + i)
section
variable {len vars : Int}
theorem Seg.nil {off : Nat} {h : Int} : Seg len vars off [] h h :=
  ⟨fun _ => h, rfl, rfl, by simp, fun i hi => .inl (by simpa using hi)⟩
theorem Seg.app {off : Nat} {a b : List Ins} {h0 h1 h2 : Int} (A : Seg len vars off a h0 h1) (B : Seg len vars (off + a.length) b h1 h2) : Seg len vars off (a ++ b) h0 h2 := by
  obtain ⟨f, f0, f1, fc, fr⟩ := A
  obtain ⟨g, g0, g1, gc, gr⟩ := B
  refine ⟨fun j => if j ≤ a.length then f j else g (j - a.length), by simp [f0], ?_, ?_, ?_⟩
  · simp only [List.length_append]
    split
    · have : b.length = 0 := by omega
      rw [this, Nat.add_zero, f1, ← g0, ← g1, this]
    · rw [Nat.add_sub_cancel_left, g1]
  · intro i x hx
    rcases Nat.lt_or_ge i a.length with hlt | hge
    · rw [List.getElem?_append_left hlt] at hx
      obtain ⟨c1, c2, c3, c4, c5⟩ := fc i x hx
      refine ⟨c1, ?_, ?_, fun h => ?_, fun h => ?_⟩
      · simp only [if_pos (Nat.le_of_lt hlt)]; exact c2
      · simp only [if_pos (Nat.le_of_lt hlt)]; exact c3
      · simp only [if_pos (Nat.le_of_lt hlt), if_pos (show i + 1 ≤ a.length from hlt)]; exact c4 h
      · obtain ⟨j, j1, j2, j3⟩ := c5 h
        refine ⟨j, by rw [List.length_append]; omega, j2, ?_⟩
        simp only [if_pos (Nat.le_of_lt hlt), if_pos j1]; exact j3
    · obtain ⟨k, rfl⟩ : ∃ k, i = a.length + k := ⟨i - a.length, by omega⟩
      rw [List.getElem?_append_right (by omega), Nat.add_sub_cancel_left] at hx
      obtain ⟨c1, c2, c3, c4, c5⟩ := gc k x hx
      have e0 : (if a.length + k ≤ a.length then f (a.length + k) else g (a.length + k - a.length)) = g k := by
        split
        · have : k = 0 := by omega
          subst this; rw [Nat.add_zero, f1, g0]
        · rw [Nat.add_sub_cancel_left]
      have ej : ∀ j, (if a.length + j ≤ a.length then f (a.length + j) else g (a.length + j - a.length)) = g j := by
        intro j
        split
        · have : j = 0 := by omega
          subst this; rw [Nat.add_zero, f1, g0]
        · rw [Nat.add_sub_cancel_left]
      refine ⟨by rw [← Nat.add_assoc]; exact c1, ?_, ?_, fun h => ?_, fun h => ?_⟩
      · rw [e0]; exact c2
      · rw [e0]; exact c3
      · rw [e0, Nat.add_assoc, ej]; exact c4 h
      · obtain ⟨j, j1, j2, j3⟩ := c5 h
        refine ⟨a.length + j, by rw [List.length_append]; omega, by rw [j2]; congr 1; omega, ?_⟩
        rw [e0, ej]; exact j3
  · intro i hi
    rw [List.length_append] at hi
    have left : i ≤ a.length → i = 0 ∨ ∃ k x, k < i ∧ (a ++ b)[k]? = some x ∧ leads x (off + k) (off + i) := by
      intro hle
      rcases fr i hle with h | ⟨k, x, q1, q2, q3⟩
      · exact .inl h
      · exact .inr ⟨k, x, q1, by rw [List.getElem?_append_left (by omega)]; exact q2, q3⟩
    rcases Nat.lt_or_ge a.length i with hlt | hge
    · obtain ⟨k, rfl⟩ : ∃ k, i = a.length + k := ⟨i - a.length, by omega⟩
      rcases gr k (by omega) with h | ⟨m, x, q1, q2, q3⟩
      · omega
      · exact .inr ⟨a.length + m, x, by omega, by rw [List.getElem?_append_right (by omega), Nat.add_sub_cancel_left]; exact q2, by rw [← Nat.add_assoc, ← Nat.add_assoc]; exact q3⟩
    · exact left hge
/-- One instruction that goes on. -/
theorem Seg.one {off : Nat} {x : Ins} {h : Int} (ok : insOk x off len vars = true) (n12 : x.op ≠ 12) (n13 : x.op ≠ 13) (tk : takes x.op ≤ h) (pt : h - takes x.op + puts x.op ≤ 64) :
    Seg len vars off [x] h (h - takes x.op + puts x.op) := by
  refine ⟨fun j => if j = 0 then h else h - takes x.op + puts x.op, rfl, rfl, ?_, ?_⟩
  · intro i y hy
    have : i = 0 := by have := (List.getElem?_eq_some_iff.1 hy).1; simp at this; omega
    subst this
    simp only [List.getElem?_cons_zero, Option.some.injEq] at hy
    subst hy
    exact ⟨ok, tk, pt, fun _ => rfl, fun hh => by rcases hh with hh | hh <;> contradiction⟩
  · intro i hi
    simp only [List.length_cons, List.length_nil] at hi
    by_cases h0 : i = 0
    · exact .inl h0
    · have : i = 1 := by omega
      subst this
      exact .inr ⟨0, x, by omega, rfl, .inl ⟨n13, rfl⟩⟩
/-- A test, and what is done if it holds. -/
theorem Seg.cond {off : Nat} {T : List Ins} {rel h : Int} (hr : 1 ≤ rel ∧ rel ≤ 6) (hl : ((off + 1 + T.length : Nat) : Int) ≤ len) (hh : 0 ≤ h ∧ h ≤ 64) (S : Seg len vars (off + 1) T h h) :
    Seg len vars off (⟨12, ((off + 1 + T.length : Nat) : Int), rel⟩ :: T) (h + 2) h := by
  obtain ⟨g, g0, g1, gc, gr⟩ := S
  refine ⟨fun j => match j with | 0 => h + 2 | j + 1 => g j, rfl, by simpa using g1, ?_, ?_⟩
  · intro i x hx
    cases i with
    | zero =>
      simp only [List.getElem?_cons_zero, Option.some.injEq] at hx
      subst hx
      refine ⟨?_, by simp [takes]; omega, by simp [takes, puts]; omega, fun _ => ?_, fun _ => ⟨T.length + 1, by simp, ?_, ?_⟩⟩
      · unfold insOk; simp; omega
      · simp only [takes, puts]; simp [g0]
      · simp; omega
      · simp only [takes, puts]; simp [g1]
    | succ i =>
      simp only [List.getElem?_cons_succ] at hx
      obtain ⟨c1, c2, c3, c4, c5⟩ := gc i x hx
      refine ⟨by rw [show off + (i + 1) = off + 1 + i by omega]; exact c1, c2, c3, c4, fun hj => ?_⟩
      obtain ⟨j, j1, j2, j3⟩ := c5 hj
      exact ⟨j + 1, by simp; omega, by rw [j2]; congr 1; omega, j3⟩
  · intro i hi
    cases i with
    | zero => exact .inl rfl
    | succ i =>
      simp only [List.length_cons] at hi
      rcases gr i (by omega) with h | ⟨k, x, q1, q2, q3⟩
      · subst h
        exact .inr ⟨0, _, by omega, rfl, .inl ⟨by simp, by omega⟩⟩
      · exact .inr ⟨k + 1, x, by omega, by simpa using q2, by rw [show off + (k + 1) = off + 1 + k by omega, show off + (i + 1) = off + 1 + i by omega]; exact q3⟩
end
end Go.Proofs.YtpfjlifneibhfaaGreat.AL
namespace Go.Proofs.YtpfjlifneibhfaaGreat.AL
section
variable {len vars : Int}
end
end Go.Proofs.YtpfjlifneibhfaaGreat.AL
namespace Go.Proofs.YtpfjlifneibhfaaGreat.AL
theorem infL_len {vs : List Un} : ∀ {l : List Ex} {us : List Un}, infL vs l = .ok us → us.length = l.length
  | [], us, h => by simp only [infL, Except.ok.injEq] at h; subst h; rfl
  | e :: es, us, h => by
    simp only [infL] at h
    split at h
    · cases h
    · split at h
      · cases h
      · rename_i asx h2
        simp only [Except.ok.injEq] at h; subst h
        simp [infL_len h2]
/-- What the check of an expression grants. -/
theorem inf_grants {vs : List Un} {e : Ex} {u : Un} (h : inf vs e = .ok u) :
    (e.kids = [] ∧ ((e.op = 1 ∧ 0 ≤ e.n ∧ e.n ≤ 1000000000) ∨ (e.op = 2 ∧ 0 ≤ e.n ∧ e.n < vs.length) ∨ (e.op = 3 ∧ 0 ≤ e.n ∧ e.n ≤ 3))) ∨
      ∃ a b x y, e.kids = [a, b] ∧ 4 ≤ e.op ∧ e.op ≤ 10 ∧ inf vs a = .ok x ∧ inf vs b = .ok y := by
  rw [inf_eq] at h
  split at h
  · cases h
  · rename_i l hl
    have hlen := infL_len hl
    match hk : e.kids, l, hlen with
    | [], [], _ =>
      left
      refine ⟨rfl, ?_⟩
      simp only [node, leafS] at h
      repeat' split at h
      all_goals first | (cases h; done) | skip
      all_goals first
        | (exact .inl ⟨by assumption, by omega, by omega⟩)
        | (rename_i hv; have := (List.getElem?_eq_some_iff.1 hv).1; exact .inr (.inl ⟨by assumption, by assumption, by omega⟩))
        | (exact .inr (.inr ⟨by assumption, by omega, by omega⟩))
    | [a, b], [x, y], _ =>
      right
      simp only [node] at h
      split at h
      · rename_i ho
        rw [hk] at hl
        simp only [infL] at hl
        split at hl
        · cases hl
        · rename_i x' hx
          split at hl
          · cases hl
          · rename_i asx h2
            split at h2
            · cases h2
            · rename_i y' hy
              simp only [Except.ok.injEq] at h2 hl
              exact ⟨a, b, x', y', rfl, ho.1, ho.2, hx, hy⟩
      · cases h
    | [a], [x], _ => simp [node] at h
    | a :: b :: c :: r, x :: y :: z :: q, _ => simp [node] at h
/-- What the check of a statement grants. -/
theorem stS_ok {vs : List Un} {s : St} (h : stS vs s = 0) :
    (s.kind = 1 ∧ 0 ≤ s.var ∧ s.var < vs.length ∧ ∃ u, inf vs s.a = .ok u) ∨
      (s.kind = 2 ∧ 1 ≤ s.rel ∧ s.rel ≤ 6 ∧ (∃ u, inf vs s.a = .ok u) ∧ (∃ u, inf vs s.b = .ok u) ∧ stSL vs s.thn = 0 ∧ stSL vs s.els = 0) := by
  rw [stS_eq] at h
  split at h
  · rename_i hk
    split at h
    · rename_i hv
      split at h
      · omega
      · rename_i w hw
        have hlt := (List.getElem?_eq_some_iff.1 hw).1
        split at h
        · rename_i x hx
          rcases inf_err vs _ _ hx with e | e <;> omega
        · rename_i u hu
          exact .inl ⟨hk, hv, by omega, u, hu⟩
    · omega
  · split at h
    · rename_i hk
      split at h
      · rename_i hr
        split at h
        · rename_i x hx
          rcases inf_err vs _ _ hx with e | e <;> omega
        · rename_i u hu
          split at h
          · rename_i x hx
            rcases inf_err vs _ _ hx with e | e <;> omega
          · rename_i w hw
            split at h
            · split at h
              · rename_i ht
                exact .inr ⟨hk, hr.1, hr.2, ⟨u, hu⟩, ⟨w, hw⟩, ht, h⟩
              · contradiction
            · omega
      · omega
    · omega
end Go.Proofs.YtpfjlifneibhfaaGreat.AL
namespace Go.Proofs.YtpfjlifneibhfaaGreat.AL
theorem eqB_eq (a b : ByteArray) : eqB a b = true ↔ a = b := by
  unfold eqB
  rw [beq_iff_eq, ByteArray.toList_eq, ByteArray.toList_eq]
  constructor
  · intro h
    obtain ⟨x⟩ := a
    obtain ⟨y⟩ := b
    have : x = y := by cases x; cases y; simpa using h
    rw [this]
  · rintro rfl; rfl
def varC (v : Vr) : Bool := nameB v.name && decide (0 ≤ v.low ∧ v.low ≤ v.init ∧ v.init ≤ v.high ∧ v.high ≤ 1000000000)
def seenM (l : List ByteArray) : List (ByteArray × Value) := l.map fun s => (s, .bool true)
theorem findS_seen : ∀ (l : List ByteArray) (s : ByteArray) (i : Nat), (findS (seenM l) s i).map (·.2) = if inB l s = true then some (.bool true) else none
  | [], s, i => by simp [seenM, findS, inB]
  | w :: l, s, i => by
    have ih := findS_seen l s (i + 1)
    unfold seenM at ih ⊢
    rw [List.map_cons, findS]
    by_cases h : s = w
    · have : eqB w s = true := (eqB_eq w s).2 h.symm
      rw [if_pos h]
      simp [inB, this]
    · have : eqB w s = false := by rw [Bool.eq_false_iff]; intro h2; exact h ((eqB_eq w s).1 h2).symm
      rw [if_neg h, ih]
      simp [inB, this]
theorem lookS_seen (l : List ByteArray) (s : ByteArray) (z : Value) : (lookS (seenM l) s).getD z = if inB l s = true then .bool true else z := by
  unfold lookS
  rw [findS_seen]
  split <;> rfl
theorem putS_seen (l : List ByteArray) (s : ByteArray) (h : inB l s = false) : putS (seenM l) s (.bool true) = seenM (l ++ [s]) := by
  have := findS_seen l s 0
  rw [h] at this
  simp only [Bool.false_eq_true, if_false, Option.map_eq_none_iff] at this
  unfold putS
  rw [this]
  simp [seenM]
/-- The loop over the variables. -/
def onceC : List Vr → List ByteArray → Bool
  | [], _ => true
  | v :: r, seen => !(inB seen v.name) && (varC v && onceC r (seen ++ [v.name]))
theorem onceC_eq : ∀ (l : List Vr) (seen : List ByteArray), onceC l seen = (l.all varC && onceB l seen)
  | [], _ => rfl
  | v :: r, seen => by
    rw [onceC, onceC_eq r, onceB, List.all_cons]
    cases inB seen v.name <;> cases varC v <;> cases r.all varC <;> simp
theorem ksL_unit : ∀ {l : List Vr} {us : List Un}, ksL l = some us → ∀ v ∈ l, 0 ≤ v.unit ∧ v.unit ≤ 4
  | [], _, _, v, hv => by cases hv
  | x :: l, us, h, v, hv => by
    rw [ksL] at h
    cases hx : ofK x.unit with
    | none => rw [hx] at h; cases h
    | some u =>
      rw [hx] at h
      cases hl : ksL l with
      | none => rw [hl] at h; cases h
      | some us' =>
        rcases List.mem_cons.1 hv with rfl | hv
        · unfold ofK at hx
          repeat' (split at hx)
          all_goals first | omega | cases hx
        · exact ksL_unit hl v hv
theorem checkS_ok (p : Prg) : ((checkS p).1 < 0 ∧ (checkS p).2 = 0) ↔ checkS p = (-1, 0) := by
  constructor
  · rintro ⟨h1, h2⟩
    unfold checkS at *
    split at h1
    · simp at h1
    · split at h1
      · simp at h1
      · rename_i hv h12
        simp only [hv, h12, if_false]
        unfold evS at *
        repeat' (split at h1)
        all_goals first | (simp at h1; done) | (simp_all)
  · intro h; rw [h]; decide
/-- What control.Valid says. -/
def ctlB (p : Prg) : Bool :=
  decide (1 ≤ p.vars.length) && (decide (p.vars.length ≤ 12) && (nameB p.name && (onceC p.vars [] && (decide ((checkS p).1 < 0) && (decide ((checkS p).2 = 0) && (usesB p.vars p.window 1 && (decide (p.pace = -1) || usesB p.vars p.pace 4)))))))
theorem ctlB_eq (p : Prg) : ctlB p = validB p := by
  have hc := checkS_ok p
  unfold ctlB validB
  rw [onceC_eq, Bool.eq_iff_iff]
  simp only [Bool.and_eq_true, decide_eq_true_eq]
  have hvar : checkS p = (-1, 0) → (p.vars.all varC = true ↔ p.vars.all varB = true) := by
    intro h
    cases hk : ksL p.vars with
    | none => unfold checkS at h; rw [hk] at h; simp at h
    | some us =>
      have hu := ksL_unit hk
      rw [List.all_eq_true, List.all_eq_true]
      constructor
      · intro h v hv
        have := hu v hv
        have := h v hv
        unfold varC at this
        unfold varB
        simp only [Bool.and_eq_true, decide_eq_true_eq] at this ⊢
        exact ⟨this.1, by omega⟩
      · intro h v hv
        have := h v hv
        unfold varB at this
        unfold varC
        simp only [Bool.and_eq_true, decide_eq_true_eq] at this ⊢
        exact ⟨this.1, by omega⟩
  constructor
  · rintro ⟨h1, h2, h3, ⟨h4, h5⟩, h6, h7, h8⟩
    have h9 := hc.1 ⟨h6, h7⟩
    exact ⟨h3, h1, h2, (hvar h9).1 h4, h5, h9, h8⟩
  · rintro ⟨h3, h1, h2, h4, h5, h9, h8⟩
    have := hc.2 h9
    exact ⟨h1, h2, h3, ⟨(hvar h9).2 h4, h5⟩, this.1, this.2, h8⟩
/-- The reference's loop over the variables. -/
def oneR (all : List Vr) : List Vr → Nat → Bool
  | [], _ => true
  | v :: r, k => varB v && (decide (findV all v.name 0 = k) && oneR all r (k + 1))
theorem findV_app (l : List Vr) (s : ByteArray) : ∀ (pre : List Vr) (i : Int), (inB (pre.map (·.name)) s = false → findV (pre ++ l) s i = findV l s (i + pre.length)) ∧ (inB (pre.map (·.name)) s = true → findV (pre ++ l) s i < i + pre.length)
  | [], i => by simp [inB]
  | v :: pre, i => by
    obtain ⟨h1, h2⟩ := findV_app l s pre (i + 1)
    have e : inB ((v :: pre).map (·.name)) s = (eqB v.name s || inB (pre.map (·.name)) s) := by simp [inB]
    rw [e, List.cons_append, findV, List.length_cons]
    cases hq : eqB v.name s with
    | true => simp; omega
    | false =>
      simp only [Bool.false_or, Bool.false_eq_true, if_false]
      refine ⟨fun h => ?_, fun h => ?_⟩
      · rw [h1 h]; congr 1; push_cast; omega
      · have := h2 h; push_cast; omega
theorem oneR_eq : ∀ (l pre : List Vr), oneR (pre ++ l) l pre.length = (l.all varB && onceB l (pre.map (·.name)))
  | [], pre => rfl
  | v :: l, pre => by
    have ih := oneR_eq l (pre ++ [v])
    rw [List.append_assoc, List.singleton_append, List.length_append, List.map_append] at ih
    rw [oneR, onceB, List.all_cons]
    simp only [List.length_cons, List.length_nil, List.map_cons, List.map_nil, Nat.zero_add] at ih
    rw [ih]
    obtain ⟨h1, h2⟩ := findV_app (v :: l) v.name pre 0
    cases hq : inB (pre.map (·.name)) v.name with
    | true =>
      have := h2 hq
      rw [decide_eq_false (by omega)]
      simp
    | false =>
      rw [h1 hq, findV, if_pos ((eqB_eq _ _).2 rfl), decide_eq_true (by omega)]
      cases varB v <;> cases l.all varB <;> simp
theorem oneR_all (l : List Vr) : oneR l l 0 = (l.all varB && onceB l []) := oneR_eq l []
end Go.Proofs.YtpfjlifneibhfaaGreat.AL
namespace Go.Proofs.YtpfjlifneibhfaaGreat.AL
mutual
def flatE : Ex → Int → Bool
  | .mk _ _ _ kids, d => decide (d ≠ 0) && flatEL kids (d - 1)
def flatEL : List Ex → Int → Bool
  | [], _ => true
  | e :: es, d => flatE e d && flatEL es d
end
theorem flatE_eq (e : Ex) (d : Int) : flatE e d = (decide (d ≠ 0) && flatEL e.kids (d - 1)) := by cases e; rw [flatE]; rfl
mutual
/-- The count of statements and expressions, as far as it is not over a number, nor deeper than another one; n was counted before. -/
def szS : St → Int → Int → Int → Int
  | .mk _ _ _ a b t e, most, deep, n =>
    (n + 1 + size a most + size b most + szL t (most - (n + 1 + size a most + size b most)) (deep - 1) 0) +
      szL e (most - (n + 1 + size a most + size b most + szL t (most - (n + 1 + size a most + size b most)) (deep - 1) 0)) (deep - 1) 0
def szL : List St → Int → Int → Int → Int
  | [], _, _, n => n
  | s :: ss, most, deep, n => if n ≤ most then (if deep = 0 ∨ flatE s.a 200 = false ∨ flatE s.b 200 = false then most + 1 else szL ss most deep (szS s most deep n)) else n
end
theorem szS_eq (s : St) (most deep n : Int) : szS s most deep n =
    (n + 1 + size s.a most + size s.b most + szL s.thn (most - (n + 1 + size s.a most + size s.b most)) (deep - 1) 0) +
      szL s.els (most - (n + 1 + size s.a most + size s.b most + szL s.thn (most - (n + 1 + size s.a most + size s.b most)) (deep - 1) 0)) (deep - 1) 0 := by
  cases s; rw [szS]; rfl
theorem size_cap (e : Ex) (b : Int) (hb : 0 ≤ b) : (size e b ≤ b → size e b = nodes e) ∧ size e b ≤ nodes e + 0 ∧ 1 ≤ size e b ∧ size e b ≤ b + 1 := by
  have h1 := size_bd e b
  have h2 := size_nodes e b
  have h3 : 1 ≤ nodes e := by cases e; simp [nodes]
  have h4 : size e b ≤ nodes e := by
    rcases Nat.lt_or_ge b.toNat (nodes e) with hlt | hge
    · omega
    · rw [h2.1 (by omega)]; omega
  omega
theorem sz_key (s : St) : ∀ most deep n : Int, 0 ≤ n → n ≤ most → n < szS s most deep n ∧ (szS s most deep n ≤ most → szS s most deep n = n + wS s) ∧ szS s most deep n ≤ 3 * most + 3 := by
  have hl : ∀ l : List St, (∀ k ∈ l, ∀ most deep n : Int, 0 ≤ n → n ≤ most → n < szS k most deep n ∧ (szS k most deep n ≤ most → szS k most deep n = n + wS k) ∧ szS k most deep n ≤ 3 * most + 3) →
      ∀ most deep n : Int, 0 ≤ n → n ≤ szL l most deep n ∧ (szL l most deep n ≤ most → szL l most deep n = n + wSL l) ∧ (szL l most deep n ≤ n ∨ szL l most deep n ≤ 3 * most + 3) := by
    intro l
    induction l with
    | nil => intro _ most deep n hn; simp only [szL, wSL]; omega
    | cons x xs ih =>
      intro h most deep n hn
      simp only [szL, wSL]
      split
      · rename_i hnm
        split
        · omega
        · have h1 := h x (by simp) most deep n hn hnm
          have h2 := ih (fun k hk => h k (by simp [hk])) most deep (szS x most deep n) (by omega)
          omega
      · omega
  induction s using St.ind with
  | h s ih1 ih2 =>
    intro most deep n hn hnm
    rw [szS_eq, wS_eq]
    have ha := size_cap s.a most (by omega)
    have hb := size_cap s.b most (by omega)
    generalize size s.a most = ka at *
    generalize size s.b most = kb at *
    have h1 := hl s.thn ih1 (most - (n + 1 + ka + kb)) (deep - 1) 0 (by omega)
    generalize szL s.thn (most - (n + 1 + ka + kb)) (deep - 1) 0 = r1 at *
    have h2 := hl s.els ih2 (most - (n + 1 + ka + kb + r1)) (deep - 1) 0 (by omega)
    generalize szL s.els (most - (n + 1 + ka + kb + r1)) (deep - 1) 0 = r2 at *
    omega
theorem szL_key (l : List St) : ∀ most deep n : Int, 0 ≤ n → n ≤ szL l most deep n ∧ (szL l most deep n ≤ most → szL l most deep n = n + wSL l) ∧ (szL l most deep n ≤ n ∨ szL l most deep n ≤ 3 * most + 3) := by
  induction l with
  | nil => intro most deep n hn; simp only [szL, wSL]; omega
  | cons x xs ih =>
    intro most deep n hn
    simp only [szL, wSL]
    split
    · rename_i hnm
      split
      · omega
      · have h1 := sz_key x most deep n hn hnm
        have h2 := ih most deep (szS x most deep n) (by omega)
        omega
    · omega
/-- Programs that are small enough to be examined. -/
def fewB5 (p : Prg) : Bool :=
  p.vars.all (fun v => decide (v.name.size ≤ 40)) && (decide (p.vars.length ≤ 20) && (decide (p.name.size ≤ 40) && decide (szL p.on0 3000 200 0 + szL p.on1 3000 200 0 + szL p.on2 3000 200 0 + szL p.on3 3000 200 0 + szL p.on4 3000 200 0 ≤ 3000)))
theorem few5_all {p : Prg} (h : fewB5 p = true) : (∀ v ∈ p.vars, v.name.size ≤ 40) ∧ p.vars.length ≤ 20 ∧ p.name.size ≤ 40 ∧ wSL p.on0 + wSL p.on1 + wSL p.on2 + wSL p.on3 + wSL p.on4 ≤ 3000 := by
  simp only [fewB5, Bool.and_eq_true, decide_eq_true_eq, List.all_eq_true] at h
  obtain ⟨h1, h2, h3, h4⟩ := h
  have k0 := szL_key p.on0 3000 200 0 (by omega)
  have k1 := szL_key p.on1 3000 200 0 (by omega)
  have k2 := szL_key p.on2 3000 200 0 (by omega)
  have k3 := szL_key p.on3 3000 200 0 (by omega)
  have k4 := szL_key p.on4 3000 200 0 (by omega)
  exact ⟨h1, h2, h3, by omega⟩
theorem wS_fine (s : St) : wS s ≤ 900000 → fine s := by
  have hl : ∀ l : List St, (∀ k ∈ l, wS k ≤ 900000 → fine k) → wSL l ≤ 900000 → fineL l := by
    intro l
    induction l with
    | nil => intro _ _; trivial
    | cons x xs ih =>
      intro h h2
      simp only [wSL] at h2
      exact ⟨h x (by simp) (by omega), ih (fun k hk => h k (by simp [hk])) (by omega)⟩
  induction s using St.ind with
  | h s h1 h2 =>
    intro h
    rw [wS_eq] at h
    rw [fine_eq]
    exact ⟨by omega, by omega, hl _ h1 (by omega), hl _ h2 (by omega)⟩
theorem wSL_fine : ∀ {l : List St}, wSL l ≤ 900000 → fineL l
  | [], _ => trivial
  | s :: l, h => by simp only [wSL] at h; exact ⟨wS_fine s (by omega), wSL_fine (by omega)⟩
/-- What is small can be counted. -/
theorem okP_of {p : Prg} (h : wSL p.on0 + wSL p.on1 + wSL p.on2 + wSL p.on3 + wSL p.on4 ≤ 900000) : okP p := by
  have := manyL_le p.on0; have := manyL_le p.on1; have := manyL_le p.on2; have := manyL_le p.on3; have := manyL_le p.on4
  exact ⟨⟨by omega, wSL_fine (by omega)⟩, ⟨by omega, wSL_fine (by omega)⟩, ⟨by omega, wSL_fine (by omega)⟩, ⟨by omega, wSL_fine (by omega)⟩, ⟨by omega, wSL_fine (by omega)⟩⟩
/-- What a valid program has. -/
structure Val (p : Prg) (vs : List Un) : Prop where
  ks : ksL p.vars = some vs
  len : vs.length = p.vars.length
  lo : 1 ≤ p.vars.length
  hi : p.vars.length ≤ 12
  h0 : stSL vs p.on0 = 0 ∧ smSL p.on0 = true ∧ manyL p.on0 ≤ 100
  h1 : stSL vs p.on1 = 0 ∧ smSL p.on1 = true ∧ manyL p.on1 ≤ 100
  h2 : stSL vs p.on2 = 0 ∧ smSL p.on2 = true ∧ manyL p.on2 ≤ 100
  h3 : stSL vs p.on3 = 0 ∧ smSL p.on3 = true ∧ manyL p.on3 ≤ 100
  h4 : stSL vs p.on4 = 0 ∧ smSL p.on4 = true ∧ manyL p.on4 ≤ 100
theorem handS_0 {vs : List Un} {l : List St} (h : handS vs l = 0) : stSL vs l = 0 ∧ smSL l = true ∧ manyL l ≤ 100 := by
  unfold handS at h
  split at h
  · contradiction
  · split at h
    · exact ⟨h, by assumption, by omega⟩
    · contradiction
theorem checkS_val {p : Prg} (h : checkS p = (-1, 0)) (lo : 1 ≤ p.vars.length) : ∃ vs, Val p vs := by
  unfold checkS at h
  split at h
  · cases h
  · rename_i vs hks
    split at h
    · cases h
    · unfold evS at h
      refine ⟨vs, ?_⟩
      repeat' (split at h; (first | (exfalso; simp only [Prod.mk.injEq] at h; omega) | skip))
      all_goals first
        | (exact ⟨hks, ksL_len hks, lo, by omega, handS_0 (by omega), handS_0 (by omega), handS_0 (by omega), handS_0 (by omega), handS_0 (by omega)⟩)
        | (exfalso; simp at h; done)
theorem validB_val {p : Prg} (h : validB p = true) : ∃ vs, Val p vs := by
  simp only [validB, Bool.and_eq_true, decide_eq_true_eq] at h
  exact checkS_val h.2.2.2.2.2.1 h.2.1
end Go.Proofs.YtpfjlifneibhfaaGreat.AL
namespace Go.Proofs.YtpfjlifneibhfaaGreat.AL
end Go.Proofs.YtpfjlifneibhfaaGreat.AL
namespace Go.Proofs.YtpfjlifneibhfaaGreat.AL
def onP (p : Prg) (a b c d e : List St) : Prg := ⟨p.name, p.vars, a, b, c, d, e, p.window, p.pace⟩
theorem handS_nil (vs : List Un) : handS vs [] = 0 := by unfold handS; simp [manyL, smSL, stSL]
theorem handS_of {vs : List Un} {l : List St} (h : stSL vs l = 0 ∧ smSL l = true ∧ manyL l ≤ 100) : handS vs l = 0 := by
  unfold handS; rw [if_neg (by omega), if_pos h.2.1]; exact h.1
theorem checkS_of {p : Prg} {vs : List Un} (hk : ksL p.vars = some vs) (hi : p.vars.length ≤ 12) (h0 : handS vs p.on0 = 0) (h1 : handS vs p.on1 = 0) (h2 : handS vs p.on2 = 0) (h3 : handS vs p.on3 = 0) (h4 : handS vs p.on4 = 0) : checkS p = (-1, 0) := by
  unfold checkS; rw [hk]; simp only; rw [if_neg (by omega)]; unfold evS; simp [h0, h1, h2, h3, h4]
theorem valid_on {p : Prg} {vs : List Un} (hv : validB p = true) (V : Val p vs) {a b c d e : List St} (h0 : handS vs a = 0) (h1 : handS vs b = 0) (h2 : handS vs c = 0) (h3 : handS vs d = 0) (h4 : handS vs e = 0) : validB (onP p a b c d e) = true := by
  have hc := checkS_of (p := onP p a b c d e) V.ks V.hi h0 h1 h2 h3 h4
  simp only [validB, Bool.and_eq_true, decide_eq_true_eq] at hv ⊢
  refine ⟨hv.1, hv.2.1, hv.2.2.1, hv.2.2.2.1, hv.2.2.2.2.1, hc, ?_⟩
  exact hv.2.2.2.2.2.2
def handP (p : Prg) (k : Nat) : List St := if k = 0 then p.on0 else if k = 1 then p.on1 else if k = 2 then p.on2 else if k = 3 then p.on3 else p.on4
theorem val_hand {p : Prg} {vs : List Un} (V : Val p vs) (k : Nat) : stSL vs (handP p k) = 0 ∧ smSL (handP p k) = true ∧ manyL (handP p k) ≤ 100 := by
  unfold handP
  repeat' split
  · exact V.h0
  · exact V.h1
  · exact V.h2
  · exact V.h3
  · exact V.h4
end Go.Proofs.YtpfjlifneibhfaaGreat.AL
namespace Go.Proofs.YtpfjlifneibhfaaGreat.AL
section
variable (st : List Int) (i0 i1 i2 i3 : Int)
def leafV (op n : Int) : Except Int Int :=
  if op = 1 then valS n else if op = 2 ∧ 0 ≤ n ∧ n < st.length then valS (st.getD n.toNat 0) else if op = 3 ∧ 0 ≤ n ∧ n < 4 then valS (inS i0 i1 i2 i3 n.toNat) else .error 1
/-- The value of an operation whose parts have values. -/
def nodeV (op n : Int) (l : List Int) : Except Int Int :=
  if 4 ≤ op ∧ op ≤ 10 then (match l with
    | [a, b] => calcS op a b
    | _ => .error 1) else if l.length = 0 then leafV st i0 i1 i2 i3 op n else .error 1
mutual
/-- The value of an expression, or the error. -/
def valE : Ex → Except Int Int
  | .mk op n _ kids => match valEs kids with
    | .error x => .error x
    | .ok l => nodeV st i0 i1 i2 i3 op n l
def valEs : List Ex → Except Int (List Int)
  | [] => .ok []
  | e :: es => match valE e with
    | .error x => .error x
    | .ok a => match valEs es with
      | .error x => .error x
      | .ok l => .ok (a :: l)
end
theorem valE_eq (e : Ex) : valE st i0 i1 i2 i3 e = match valEs st i0 i1 i2 i3 e.kids with
    | .error x => .error x
    | .ok l => nodeV st i0 i1 i2 i3 e.op e.n l := by cases e; rw [valE]; rfl
end
section
variable (vs : List Vr) (i0 i1 i2 i3 : Int)
mutual
/-- A statement leads from a state to a state, or to an error. -/
def runStS : St → List Int → Except Int (List Int)
  | .mk kind var rel a b t e, st => match valE st i0 i1 i2 i3 a with
    | .error x => .error x
    | .ok x => if kind = 1 then (match vs[var.toNat]? with
        | none => .error 1
        | some v => if v.low ≤ x ∧ x ≤ v.high then .ok (st.set var.toNat x) else .error 15)
      else match valE st i0 i1 i2 i3 b with
        | .error y => .error y
        | .ok y => if holdsS x rel y = true then runStL t st else runStL e st
def runStL : List St → List Int → Except Int (List Int)
  | [], st => .ok st
  | s :: ss, st => match runStS s st with
    | .error x => .error x
    | .ok st' => runStL ss st'
end
theorem runStS_eq (s : St) (st : List Int) : runStS vs i0 i1 i2 i3 s st = match valE st i0 i1 i2 i3 s.a with
    | .error x => .error x
    | .ok x => if s.kind = 1 then (match vs[s.var.toNat]? with
        | none => .error 1
        | some v => if v.low ≤ x ∧ x ≤ v.high then .ok (st.set s.var.toNat x) else .error 15)
      else match valE st i0 i1 i2 i3 s.b with
        | .error y => .error y
        | .ok y => if holdsS x s.rel y = true then runStL vs i0 i1 i2 i3 s.thn st else runStL vs i0 i1 i2 i3 s.els st := by cases s; rw [runStS]; rfl
end
theorem valE_isV {st : List Int} {i0 i1 i2 i3 : Int} {e : Ex} {v : Int} (h : valE st i0 i1 i2 i3 e = .ok v) : isV v := by
  rw [valE_eq] at h
  split at h
  · cases h
  · unfold nodeV leafV at h
    repeat' split at h
    all_goals first | (cases h; done) | exact calcS_isV h | exact (valS_ok h).2 ▸ (valS_ok h).1
end Go.Proofs.YtpfjlifneibhfaaGreat.AL
namespace Go.Proofs.YtpfjlifneibhfaaGreat.Y
open Go.Proofs.YtpfjlifneibhfaaGreat.AL Go.Proofs Go
attribute [local irreducible] AWP AWL AWG AWR AWE AWX AWO AWSeq AWSG AWSR AWSO AWSE AWSF GoodP OGW OGR OGE OGX PGW PGR PGE Wk AWLoop AWPD AWLD
theorem ofVF (e : Int) : AV.ofV (.tuple #[.agg #[.int .i64 e], .bool true]) = .tup [.agg [.i e], .b true] := by
  simp [AV.ofV, AV.ofV1, Value.oneCell']
  exact ⟨rfl, rfl⟩
theorem caughtM_run (e : Int) (H0 : List AObj) : ARun Tryz.prog 36 [xF e] H0 (.ret (.i e) H0) := by
  (refine ARun.intro Tryz.func36 rfl Tryz.call36 Tryz.ntmps36 Tryz.results36 ?_; simp only [List.length_cons, List.length_nil, List.length_map, Nat.reduceAdd, Nat.reduceSub, List.replicate_succ, List.replicate_zero, List.cons_append, List.nil_append])
  repeat' (first | refine awp_seq ?_ | refine awp_block ?_ | refine awp_scope ?_ | ((first | refine awp_region_k fun Kn Kp hn hp => ?_ | refine oge_intro (by assumption) ?_) <;> (simp only [go_sem, Nat.reduceAdd, Nat.reduceSub, Nat.reduceMul, Nat.reduceLeDiff, Nat.reduceLT, Nat.reduceEqDiff, Int.reduceToNat, Int.reduceAdd, Int.reduceMul, Int.reduceSub, Int.reduceLT, Int.reduceLE, Int.reduceEq, Int.reduceNeg, Int.reduceBEq, Int.reduceBNe, ↓reduceIte, reduceCtorEq] <;> try simp (disch := omega) only [wrap_of])) | (refine hn _ _ ?_; clear hn hp Kn Kp) | (refine hp _ _ _ ?_; clear hn hp Kn Kp) | (refine awp_cond rfl (fun hb => ?_) (fun hb => ?_) <;> (try simp only [decide_eq_true_eq, decide_eq_false_iff_not, Bool.not_eq_true', Bool.not_eq_false', Bool.true_eq_false, Bool.false_eq_true, beq_iff_eq, bne_iff_ne, bne_eq_false_iff_eq, beq_eq_false_iff_ne, gt_iff_lt, ge_iff_le, Int.reduceEq, Int.reduceNe, Int.reduceLT, Int.reduceLE, ne_eq, not_true_eq_false, not_false_eq_true] at hb)) | ((first | refine awg_split (fun hb => ?_) (fun hb => ?_) | refine awsg_split (fun hb => ?_) (fun hb => ?_)) <;> have hb0 := hb <;> (try simp only [decide_eq_true_eq, decide_eq_false_iff_not, Bool.not_eq_true', Bool.not_eq_false', Bool.true_eq_false, Bool.false_eq_true, beq_iff_eq, bne_iff_ne, bne_eq_false_iff_eq, beq_eq_false_iff_ne, gt_iff_lt, ge_iff_le, Int.reduceEq, Int.reduceNe, Int.reduceLT, Int.reduceLE, ne_eq, not_true_eq_false, not_false_eq_true] at hb0) <;> (try simp only [beq_true, beq_false, Bool.not_eq_true', Bool.not_eq_false'] at hb) <;> (simp only [go_sem, Nat.reduceAdd, Nat.reduceSub, Nat.reduceMul, Nat.reduceLeDiff, Nat.reduceLT, Nat.reduceEqDiff, Int.reduceToNat, Int.reduceAdd, Int.reduceMul, Int.reduceSub, Int.reduceLT, Int.reduceLE, Int.reduceEq, Int.reduceNeg, Int.reduceBEq, Int.reduceBNe, ↓reduceIte, reduceCtorEq, hb, hb0] <;> try simp (disch := omega) only [wrap_of])) | (refine And.intro ?_ ?_) | refine awp_skip ?_ | refine awp_ret ?_ | refine awp_exit ?_ | refine awp_label ?_ | refine awloop_step ?_ | fail)
  unfold AWX
  refine ⟨rfl, .tuple #[.agg #[.int .i64 e], .bool true], fun w => ?_, ?_⟩
  · simp [execOp, aRho, aev, AV.conc, AV.ofV, AV.sc, Instr.typeAssert, run_underlying Tryz.underlying81]
  · rw [ofVF]
    simp only [go_sem, Nat.reduceAdd, Nat.reduceSub, Nat.reduceMul, Nat.reduceLeDiff, Nat.reduceLT, Nat.reduceEqDiff, Int.reduceToNat, Int.reduceAdd, Int.reduceMul, Int.reduceSub, Int.reduceLT, Int.reduceLE, Int.reduceEq, Int.reduceNeg, Int.reduceBEq, Int.reduceBNe, ↓reduceIte, reduceCtorEq]
    repeat' (first | refine awp_seq ?_ | refine awp_block ?_ | refine awp_scope ?_ | ((first | refine awp_region_k fun Kn Kp hn hp => ?_ | refine oge_intro (by assumption) ?_) <;> (simp only [go_sem, Nat.reduceAdd, Nat.reduceSub, Nat.reduceMul, Nat.reduceLeDiff, Nat.reduceLT, Nat.reduceEqDiff, Int.reduceToNat, Int.reduceAdd, Int.reduceMul, Int.reduceSub, Int.reduceLT, Int.reduceLE, Int.reduceEq, Int.reduceNeg, Int.reduceBEq, Int.reduceBNe, ↓reduceIte, reduceCtorEq] <;> try simp (disch := omega) only [wrap_of])) | (refine hn _ _ ?_; clear hn hp Kn Kp) | (refine hp _ _ _ ?_; clear hn hp Kn Kp) | (refine awp_cond rfl (fun hb => ?_) (fun hb => ?_) <;> (try simp only [decide_eq_true_eq, decide_eq_false_iff_not, Bool.not_eq_true', Bool.not_eq_false', Bool.true_eq_false, Bool.false_eq_true, beq_iff_eq, bne_iff_ne, bne_eq_false_iff_eq, beq_eq_false_iff_ne, gt_iff_lt, ge_iff_le, Int.reduceEq, Int.reduceNe, Int.reduceLT, Int.reduceLE, ne_eq, not_true_eq_false, not_false_eq_true] at hb)) | ((first | refine awg_split (fun hb => ?_) (fun hb => ?_) | refine awsg_split (fun hb => ?_) (fun hb => ?_)) <;> have hb0 := hb <;> (try simp only [decide_eq_true_eq, decide_eq_false_iff_not, Bool.not_eq_true', Bool.not_eq_false', Bool.true_eq_false, Bool.false_eq_true, beq_iff_eq, bne_iff_ne, bne_eq_false_iff_eq, beq_eq_false_iff_ne, gt_iff_lt, ge_iff_le, Int.reduceEq, Int.reduceNe, Int.reduceLT, Int.reduceLE, ne_eq, not_true_eq_false, not_false_eq_true] at hb0) <;> (try simp only [beq_true, beq_false, Bool.not_eq_true', Bool.not_eq_false'] at hb) <;> (simp only [go_sem, Nat.reduceAdd, Nat.reduceSub, Nat.reduceMul, Nat.reduceLeDiff, Nat.reduceLT, Nat.reduceEqDiff, Int.reduceToNat, Int.reduceAdd, Int.reduceMul, Int.reduceSub, Int.reduceLT, Int.reduceLE, Int.reduceEq, Int.reduceNeg, Int.reduceBEq, Int.reduceBNe, ↓reduceIte, reduceCtorEq, hb, hb0] <;> try simp (disch := omega) only [wrap_of])) | (refine And.intro ?_ ?_) | refine awp_skip ?_ | refine awp_ret ?_ | refine awp_exit ?_ | refine awp_label ?_ | refine awloop_step ?_ | fail)
    (refine resX ?_; try exact True.intro)
theorem msize_run (e : Ex) : ∀ (b : Int) (H0 : List AObj), -1000000 ≤ b → b ≤ 1000000 → ARun Tryz.prog 34 [.ag (cE e), .i b] H0 (.ret (.i (size e b)) H0) := by
  induction e using Ex.ind with
  | h e ih =>
    intro b H0 hb1 hb2
    rw [size_eq]
    (refine ARun.intro Tryz.func34 rfl Tryz.call34 Tryz.ntmps34 Tryz.results34 ?_; simp only [List.length_cons, List.length_nil, List.length_map, Nat.reduceAdd, Nat.reduceSub, List.replicate_succ, List.replicate_zero, List.cons_append, List.nil_append])
    refine awp_len_agg 0 3 rfl rfl fun hlen => ?_
    rw [List.length_map] at hlen
    have lw : (e.kids.map encE).length = e.kids.length := List.length_map encE
    (have ww1 := lw; refine wk ?_; clear ww1; (repeat' first | exact True.intro | refine Lf.mk ?_ ?_); all_goals intro hP)
    refine awp_loop_ind (σ := Nat × Int) (fun s => e.kids.length - s.1) (fun s => s.1 ≤ e.kids.length ∧ 1 ≤ s.2 ∧ (s.2 ≤ 1 ∨ s.2 ≤ b + 1) ∧ sizeL (e.kids.drop s.1) b s.2 = sizeL e.kids b 1)
      (fun s => (.any :: .i b :: .p H0.length 0 :: .any :: .any :: .i s.2 :: .any :: .any :: .any :: .rs 4 (e.kids.map encE) :: .i e.kids.length :: .i s.1 :: .any :: .any :: .any :: .any :: .any :: .any :: .any :: .any :: .any :: .any :: .any :: .any :: .any :: .any :: .any :: []))
      (fun s => H0 ++ [.cells 33 [.i e.op, .i e.n, .i e.unit, .rs 4 (e.kids.map encE)]]) (0, 1) ⟨Nat.zero_le _, by omega, by omega, rfl⟩ (by (refine fgtX ?_; try exact True.intro)) ?_
    rintro ⟨i, n⟩ ⟨h1, h2, h3, h4⟩
    simp only at h1 h2 h3 h4 ⊢
    cases hr : e.kids.drop i with
    | nil =>
      have hlt := drop_nil hr
      rw [hr, sizeL] at h4
      (have ww1 := hlt; refine wk ?_; clear ww1; (repeat' first | exact True.intro | refine Lf.mk ?_ ?_); all_goals intro hP)
      (refine resX ?_; try exact True.intro)
      rw [h4]
    | cons k rest =>
      obtain ⟨hk, hlt, hd, hm⟩ := drop_cons hr
      have hw : IntKind.i64.wrap ((i : Int) + 1) = ((i + 1 : Nat) : Int) := by rw [wrap_of (by omega) (by omega)]; omega
      have hk' : (e.kids.map encE)[i]? = some (cE k) := by rw [List.getElem?_map, hk, Option.map_some, encE_eq]
      rw [hr, sizeL] at h4
      have hz := size_bd k (b - n)
      by_cases hb : n ≤ b
      · rw [if_pos hb] at h4
        have c := fun H => ih k hm (b - n) H (by omega) (by omega)
        have w2 : IntKind.i64.wrap (b - n) = b - n := wrap_of (by omega) (by omega)
        have w3 : IntKind.i64.wrap (n + size k (b - n)) = n + size k (b - n) := wrap_of (by omega) (by omega)
        have hnb : ¬ b < n := by omega
        (have ww1 := hlt; have ww2 := hk'; have ww3 := hw; have ww4 := w2; have ww5 := w3; have ww6 := hnb; have cc1 := fun z1 => c z1; refine wk ?_; clear ww1 ww2 ww3 ww4 ww5 ww6 cc1; (repeat' first | exact True.intro | refine Lf.mk ?_ ?_); all_goals intro hP)
        refine ⟨(i + 1, n + size k (b - n)), by simp only; omega, ⟨by simp only; omega, by simp only; omega, by simp only; omega, by simp only; rw [hd]; exact h4⟩, ?_⟩
        refine Wk.keepE 1 1 rfl (by simp) (by intro o ho; simp only [List.mem_cons, List.not_mem_nil, or_false] at ho; subst ho; simp [AObj.under, AV.under]) ?_
        simp only [List.map_cons, List.map_nil, AV.low, Nat.lt_irrefl, if_false, Fgt, true_or, or_true, and_true, true_and, Nat.lt_add_right_iff_pos, Nat.lt_add_one, if_true, eq_self]
      · rw [if_neg hb] at h4
        have hnb : b < n := by omega
        (have ww1 := hlt; have ww2 := hk'; have ww3 := hnb; refine wk ?_; clear ww1 ww2 ww3; (repeat' first | exact True.intro | refine Lf.mk ?_ ?_); all_goals intro hP)
        (refine resX ?_; try exact True.intro)
        rw [h4]
theorem undAnyM : Tryz.prog.underlying 20 = some (.interface (Tryz.prog.methodsAt 20)) := by kernel_rfl
theorem evalD_none (a b : Nat) (H : List AObj) : ARunD Tryz.prog 35 [.p a 0, .p b 0] H none H := by
  refine ARunD.intro Tryz.func35 rfl Tryz.call35 Tryz.ntmps35 Tryz.results35 ?_
  simp only [List.length_cons, List.length_nil, Nat.reduceAdd, Nat.reduceSub, List.replicate_succ, List.replicate_zero, List.cons_append, List.nil_append, UM.of]
  refine awps_seq ?_
  refine awps_region ?_
  simp only [AWLS, isRecover, if_true, Bool.false_eq_true, if_false, aput, aStep, aev, List.set_cons_zero, List.set_cons_succ, List.getElem?_cons_zero, List.getElem?_cons_succ, Option.getD_some, AV.ofV, aEqStep, aEq, AV.sc]
  refine awps_seq ?_
  refine awps_region ?_
  simp only [AWLS, isRecover, if_true, Bool.false_eq_true, if_false, aput, aStep, aev, List.set_cons_zero, List.set_cons_succ, List.getElem?_cons_zero, List.getElem?_cons_succ, Option.getD_some, AV.ofV, aEqStep, aEq, AV.sc]
  refine ⟨rfl, .bool false, fun w => ?_, ?_⟩
  · simp [execOp, aRho, aev, AV.conc, eqGuard, binOp, Op.equal, Op.maxDepth, AV.ofV, AV.sc, run_equalIn_nil_nil w 9999 20 undAnyM]
  · refine awps_cond rfl (fun hb => by cases hb) (fun _ => ?_)
    refine awps_skip ?_
    refine ⟨⟨_, rfl⟩, ⟨H.length, ⟨Nat.le_refl _, Nat.le_refl _, fun id o hid ho => .inl ho⟩, by simp⟩, trivial⟩
theorem evalD_pan (a b : Nat) (hab : a ≠ b) (H : List AObj) (e x y : Int) (ha : H[a]? = some (.cells 3 [.i x])) (hb : H[b]? = some (.cells 37 [.i y])) :
    ARunD Tryz.prog 35 [.p a 0, .p b 0] H (some (xF e)) ((H.set a (.cells 3 [.i 0])).set b (.cells 37 [.i e])) := by
  refine ARunD.intro Tryz.func35 rfl Tryz.call35 Tryz.ntmps35 Tryz.results35 ?_
  simp only [List.length_cons, List.length_nil, Nat.reduceAdd, Nat.reduceSub, List.replicate_succ, List.replicate_zero, List.cons_append, List.nil_append, UM.of]
  refine awps_seq ?_
  refine awps_region ?_
  simp only [AWLS, isRecover, if_true, Bool.false_eq_true, if_false, aput, aStep, aev, List.set_cons_zero, List.set_cons_succ, List.getElem?_cons_zero, List.getElem?_cons_succ, Option.getD_some, AV.ofV, aEqStep, aEq, AV.sc]
  refine awps_seq ?_
  refine awps_region ?_
  simp only [AWLS, isRecover, if_true, Bool.false_eq_true, if_false, aput, aStep, aev, List.set_cons_zero, List.set_cons_succ, List.getElem?_cons_zero, List.getElem?_cons_succ, Option.getD_some, AV.ofV, aEqStep, aEq, AV.sc]
  refine ⟨rfl, .bool true, fun w => ?_, ?_⟩
  · simp [execOp, aRho, aev, AV.conc, eqGuard, binOp, Op.equal, Op.maxDepth, AV.ofV, AV.sc, run_equalIn_held_nil w 9999 20 81 _ undAnyM]
  · refine awps_cond rfl (fun _ => ?_) (fun hb => by cases hb)
    refine awps_region ?_
    simp only [AWLS, isRecover, if_true, Bool.false_eq_true, if_false, aput, aStep, aev, List.set_cons_zero, List.set_cons_succ, List.getElem?_cons_zero, List.getElem?_cons_succ, Option.getD_some, AV.ofV, aEqStep, aEq, AV.sc]
    refine ⟨.i e, H, caughtM_run e H, ?_⟩
    have hb2 : (H.set a (.cells 3 [.i 0]))[b]? = some (.cells 37 [.i y]) := by rw [List.getElem?_set_ne hab]; exact hb
    simp only [go_sem, Nat.reduceAdd, Nat.reduceSub, Nat.reduceMul, Nat.reduceLeDiff, Nat.reduceLT, Nat.reduceEqDiff, Int.reduceToNat, Int.reduceAdd, Int.reduceMul, Int.reduceSub, Int.reduceLT, Int.reduceLE, Int.reduceEq, Int.reduceNeg, Int.reduceBEq, Int.reduceBNe, ↓reduceIte, reduceCtorEq, ha, hb2]
    refine ⟨⟨_, rfl⟩, ⟨H.length, ⟨Nat.le_refl _, by simp, fun id o hid ho => ?_⟩, by rw [List.take_of_length_le (by simp)]⟩, trivial⟩
    by_cases h1 : b = id
    · subst h1
      rw [List.getElem?_set_self (by rw [List.length_set]; exact (List.getElem?_eq_some_iff.1 hb).1)] at ho
      simp only [Option.some.injEq] at ho
      subst ho
      exact .inr (by simp [AObj.under, AV.under])
    · rw [List.getElem?_set_ne h1] at ho
      by_cases h2 : a = id
      · subst h2
        rw [List.getElem?_set_self (List.getElem?_eq_some_iff.1 ha).1] at ho
        simp only [Option.some.injEq] at ho
        subst ho
        exact .inr (by simp [AObj.under, AV.under])
      · rw [List.getElem?_set_ne h2] at ho
        exact .inl ho
end Go.Proofs.YtpfjlifneibhfaaGreat.Y
