/- Part 2 of the proofs of seat Ytiifbdkedainnaa: what the texts behind it lean on (abstract memory, walks of functions, plain laws). -/
import Derived.Test.YtiifbdkedainnaaM1
import Derived.Test.YtiifbdkedainnaaProg
import Derived.KernelRfl
import Derived.WideLaws

/- The walk as the default proof of a premise: what a walk leaves is told in one list. -/
set_option linter.unusedVariables false
set_option linter.unusedSectionVars false
namespace Go.Proofs.Ytiifbdkedainnaa.AL
variable [G : GTab]
/-- What a walk leaves, one after the other. -/
def Lf (a b : Prop) : Prop := a ∧ b
theorem Lf.mk {a b : Prop} (h : a) (k : b) : Lf a b := ⟨h, k⟩
inductive Fl : Prop → Prop
  | t : Fl True
  | any (q : Prop) : Fl q
structure Bx (q : Prop) : Prop where
  o : q
theorem ARun.lendA {P : Program} {f : FuncId} {args args' : List AV} {v : AV} {H : List AObj} (h : ARun P f args' [] (.ret v []))
    (ha : CvL (args.map fun c => c.low H 0 2) args' := by simp only [List.map_cons, List.map_nil, AV.low, AV.toPV, AV.toPVs, AV.toPVr, getO0, getOk, getS0, getSk, List.getElem?_cons_zero, List.getElem?_cons_succ, Nat.not_lt_zero, if_false, if_true, List.length_cons, List.length_nil, Nat.zero_le, and_self, and_true, true_and, List.drop_zero, List.take_succ_cons, List.take_zero, List.take_nil, Option.map_some, Nat.zero_add]; (repeat' (first | exact trivial | exact Cv.refl _ | exact Cv.nil (Nat.succ_pos _) | exact PCv.refl _ | exact PCv.nil (Nat.succ_pos _) | refine And.intro ?_ ?_ | refine Cv.agg ?_ | refine Cv.pv (PCv.rs ?_) | refine PCv.rs ?_)); (first | done | fail))
    (hv : v.fl3 = true := by rfl) : ARun P f args H (.ret v H) := ARun.lend 2 h ha hv
/-- The operations of a region. -/
def regOps (n : Nat) : Code → List Oper
  | .region i l _ => if i = n then l.toList else []
  | .seq a b => regOps n a ++ regOps n b
  | .cond _ a b => regOps n a ++ regOps n b
  | .block _ c => regOps n c
  | .loop c => regOps n c
  | .scope c => regOps n c
  | _ => []
/-- A region that draws its order, and its plan. -/
def Drawn (P : Program) (id : Nat) (l0 : List Oper) (effs bad : List Nat) (plan : List OpPlan) (ne : Nat) (sm : List Tmp) : Prop :=
  P.follows .mixedOrders = true ∧ (drawOk l0 (ancTab l0) effs (winsOf l0 effs) sm && bad.all (· < l0.length) && decide (planOf l0 effs bad = plan) && effs.length == ne) = true
section
variable {P : Program} {id : Nat} {l0 l : List Oper} {effs bad : List Nat} {plan : List OpPlan} {ne : Nat} {sm : List Tmp} {H0 H : List AObj} {Q : AEx → List AV → List AObj → Prop} {tm : List AV}
theorem Drawn.go (d : Drawn P id l0 effs bad plan ne []) (hl : l0 = l) (h : ∀ (Kn : List AV → List AObj → Prop) (Kp : AV → List AV → List AObj → Prop), (∀ tm H, Q .normal tm H → Kn tm H) → (∀ x tm H, Q (.pan x) tm H → Kp x tm H) →
      AWSeq P l (fun T H' Hs => Hs.getD 0 [] = H ∧ GoodP P l T (AEx.two Kn Kp) Hs plan l ∧ (bad = [] → Kn T (Hs.getD ne []))) plan l tm H [H]) : AWP P H0 (.region id l.toArray true) Q tm H := by
  subst hl; exact awp_drawn_k effs bad plan ne d.1 d.2 h
theorem Drawn.goS (d : Drawn P id l0 effs bad plan ne sm) (hl : l0 = l) (h : ∀ (Kn : List AV → List AObj → Prop) (Kp : AV → List AV → List AObj → Prop), (∀ tm H, Q .normal tm H → Kn tm H) → (∀ x tm H, Q (.pan x) tm H → Kp x tm H) →
      AWSeq P l (fun T H' Hs => Hs.getD 0 [] = H ∧ SameAt sm T tm ∧ GoodP P l T (AEx.two Kn Kp) Hs plan l ∧ (bad = [] → Kn T (Hs.getD ne []))) plan l tm H [H]) : AWP P H0 (.region id l.toArray true) Q tm H := by
  subst hl; exact awp_drawnS_k effs bad plan ne sm d.1 d.2 h
theorem Drawn.goD {Q : AEx → List AV → List AObj → List ADef → Prop} {AD : List ADef} (d : Drawn P id l0 effs bad plan ne []) (hl : l0 = l) (h : ∀ (Kn : List AV → List AObj → Prop) (Kp : AV → List AV → List AObj → Prop), (∀ tm H, Q .normal tm H AD → Kn tm H) → (∀ x tm H, Q (.pan x) tm H AD → Kp x tm H) →
      AWSeq P l (fun T H' Hs => Hs.getD 0 [] = H ∧ GoodP P l T (AEx.two Kn Kp) Hs plan l ∧ (bad = [] → Kn T (Hs.getD ne []))) plan l tm H [H]) : AWPD P H0 (.region id l.toArray true) Q tm H AD := by
  subst hl; exact awpd_drawn_k effs bad plan ne d.1 d.2 h
end
theorem wk {p q1 q2 q3 q4 q5 q6 q7 q8 q9 q10 q11 q12 q13 q14 q15 q16 q17 q18 q19 q20 q21 q22 q23 q24 q25 q26 q27 q28 q29 q30 q31 q32 : Prop} (k : Lf q1 (Lf q2 (Lf q3 (Lf q4 (Lf q5 (Lf q6 (Lf q7 (Lf q8 (Lf q9 (Lf q10 (Lf q11 (Lf q12 (Lf q13 (Lf q14 (Lf q15 (Lf q16 (Lf q17 (Lf q18 (Lf q19 (Lf q20 (Lf q21 (Lf q22 (Lf q23 (Lf q24 (Lf q25 (Lf q26 (Lf q27 (Lf q28 (Lf q29 (Lf q30 (Lf q31 q32))))))))))))))))))))))))))))))) (h : Bx q1 → Bx q2 → Bx q3 → Bx q4 → Bx q5 → Bx q6 → Bx q7 → Bx q8 → Bx q9 → Bx q10 → Bx q11 → Bx q12 → Bx q13 → Bx q14 → Bx q15 → Bx q16 → Bx q17 → Bx q18 → Bx q19 → Bx q20 → Bx q21 → Bx q22 → Bx q23 → Bx q24 → Bx q25 → Bx q26 → Bx q27 → Bx q28 → Bx q29 → Bx q30 → Bx q31 → Bx q32 → p ∧ Fl q1 ∧ Fl q2 ∧ Fl q3 ∧ Fl q4 ∧ Fl q5 ∧ Fl q6 ∧ Fl q7 ∧ Fl q8 ∧ Fl q9 ∧ Fl q10 ∧ Fl q11 ∧ Fl q12 ∧ Fl q13 ∧ Fl q14 ∧ Fl q15 ∧ Fl q16 ∧ Fl q17 ∧ Fl q18 ∧ Fl q19 ∧ Fl q20 ∧ Fl q21 ∧ Fl q22 ∧ Fl q23 ∧ Fl q24 ∧ Fl q25 ∧ Fl q26 ∧ Fl q27 ∧ Fl q28 ∧ Fl q29 ∧ Fl q30 ∧ Fl q31 ∧ Fl q32 := by
    intro l1 l2 l3 l4 l5 l6 l7 l8 l9 l10 l11 l12 l13 l14 l15 l16 l17 l18 l19 l20 l21 l22 l23 l24 l25 l26 l27 l28 l29 l30 l31 l32; refine ⟨?_, ?_, ?_, ?_, ?_, ?_, ?_, ?_, ?_, ?_, ?_, ?_, ?_, ?_, ?_, ?_, ?_, ?_, ?_, ?_, ?_, ?_, ?_, ?_, ?_, ?_, ?_, ?_, ?_, ?_, ?_, ?_, ?_⟩; have hP := True.intro; (first | have ww1 := @ww1 | have ww1 := True.intro); (first | have ww2 := @ww2 | have ww2 := True.intro); (first | have ww3 := @ww3 | have ww3 := True.intro); (first | have ww4 := @ww4 | have ww4 := True.intro); (first | have ww5 := @ww5 | have ww5 := True.intro); (first | have ww6 := @ww6 | have ww6 := True.intro); (first | have ww7 := @ww7 | have ww7 := True.intro); (first | have ww8 := @ww8 | have ww8 := True.intro); (first | have ww9 := @ww9 | have ww9 := True.intro); (first | have ww10 := @ww10 | have ww10 := True.intro); (first | have ww11 := @ww11 | have ww11 := True.intro); (first | have ww12 := @ww12 | have ww12 := True.intro); (first | have ww13 := @ww13 | have ww13 := True.intro); (first | have ww14 := @ww14 | have ww14 := True.intro); (first | have ww15 := @ww15 | have ww15 := True.intro); (first | have ww16 := @ww16 | have ww16 := True.intro); (repeat' (first | refine awp_seq ?_ | refine awp_block ?_ | refine awp_scope ?_ | ((first | refine awp_region_k fun Kn Kp hn hp => ?_ | (show AWP _ _ (Code.region _ _ true) _ _ _; first | refine Drawn.go rr1 (by rfl) fun Kn Kp hn hp => ?_ | refine Drawn.go rr2 (by rfl) fun Kn Kp hn hp => ?_ | refine Drawn.go rr3 (by rfl) fun Kn Kp hn hp => ?_ | refine Drawn.go rr4 (by rfl) fun Kn Kp hn hp => ?_ | refine Drawn.go rr5 (by rfl) fun Kn Kp hn hp => ?_ | refine Drawn.go rr6 (by rfl) fun Kn Kp hn hp => ?_ | refine Drawn.goS rr1 (by rfl) fun Kn Kp hn hp => ?_ | refine Drawn.goS rr2 (by rfl) fun Kn Kp hn hp => ?_ | refine Drawn.goS rr3 (by rfl) fun Kn Kp hn hp => ?_ | refine Drawn.goS rr4 (by rfl) fun Kn Kp hn hp => ?_ | refine Drawn.goS rr5 (by rfl) fun Kn Kp hn hp => ?_ | refine Drawn.goS rr6 (by rfl) fun Kn Kp hn hp => ?_) | refine oge_intro (by assumption) ?_ | (show AWE _ _ _ _ _ _ _ _ _; first | refine awe_intro (cc1 ..) ?_| refine awe_intro (cc2 ..) ?_| refine awe_intro (cc3 ..) ?_| refine awe_intro (cc4 ..) ?_| refine awe_intro (cc5 ..) ?_| refine awe_intro (cc6 ..) ?_| refine awe_intro (cc7 ..) ?_| refine awe_intro (cc8 ..) ?_| refine awe_intro (cc9 ..) ?_| refine awe_intro (cc10 ..) ?_| refine awe_intro (cc11 ..) ?_| refine awe_intro (cc12 ..) ?_| refine awe_intro (ARun.lendA dd1) ?_| refine awe_intro (ARun.lendA dd2) ?_| refine awe_intro (ARun.lendA dd3) ?_| refine awe_intro (ARun.lendA dd4) ?_| refine awe_intro (ARun.lendA dd5) ?_| refine awe_intro (ARun.lendA dd6) ?_| refine awe_intro (ARun.lendA dd7) ?_| refine awe_intro (ARun.lendA dd8) ?_) | (show AWSF _ _ _ _ _ _ _ _ _ _ _; first | refine awsf_intro (cc1 ..) (fun hrun => ?_)| refine awsf_intro (cc2 ..) (fun hrun => ?_)| refine awsf_intro (cc3 ..) (fun hrun => ?_)| refine awsf_intro (cc4 ..) (fun hrun => ?_)| refine awsf_intro (cc5 ..) (fun hrun => ?_)| refine awsf_intro (cc6 ..) (fun hrun => ?_)| refine awsf_intro (cc7 ..) (fun hrun => ?_)| refine awsf_intro (cc8 ..) (fun hrun => ?_)| refine awsf_intro (cc9 ..) (fun hrun => ?_)| refine awsf_intro (cc10 ..) (fun hrun => ?_)| refine awsf_intro (cc11 ..) (fun hrun => ?_)| refine awsf_intro (cc12 ..) (fun hrun => ?_)| refine awsf_intro (ARun.lendA dd1) (fun hrun => ?_)| refine awsf_intro (ARun.lendA dd2) (fun hrun => ?_)| refine awsf_intro (ARun.lendA dd3) (fun hrun => ?_)| refine awsf_intro (ARun.lendA dd4) (fun hrun => ?_)| refine awsf_intro (ARun.lendA dd5) (fun hrun => ?_)| refine awsf_intro (ARun.lendA dd6) (fun hrun => ?_)| refine awsf_intro (ARun.lendA dd7) (fun hrun => ?_)| refine awsf_intro (ARun.lendA dd8) (fun hrun => ?_)) | (show OGE _ _ _ _ _ _ _; first | refine oge_intro (cc1 ..) ?_| refine oge_intro (cc2 ..) ?_| refine oge_intro (cc3 ..) ?_| refine oge_intro (cc4 ..) ?_| refine oge_intro (cc5 ..) ?_| refine oge_intro (cc6 ..) ?_| refine oge_intro (cc7 ..) ?_| refine oge_intro (cc8 ..) ?_| refine oge_intro (cc9 ..) ?_| refine oge_intro (cc10 ..) ?_| refine oge_intro (cc11 ..) ?_| refine oge_intro (cc12 ..) ?_| refine oge_intro (ARun.lendA dd1) ?_| refine oge_intro (ARun.lendA dd2) ?_| refine oge_intro (ARun.lendA dd3) ?_| refine oge_intro (ARun.lendA dd4) ?_| refine oge_intro (ARun.lendA dd5) ?_| refine oge_intro (ARun.lendA dd6) ?_| refine oge_intro (ARun.lendA dd7) ?_| refine oge_intro (ARun.lendA dd8) ?_) | (show AWSE _ _ _ _ _ _ _ _ _ _ _; first | refine awse_intro (cc1 ..) (fun hrun => ?_)| refine awse_intro (cc2 ..) (fun hrun => ?_)| refine awse_intro (cc3 ..) (fun hrun => ?_)| refine awse_intro (cc4 ..) (fun hrun => ?_)| refine awse_intro (cc5 ..) (fun hrun => ?_)| refine awse_intro (cc6 ..) (fun hrun => ?_)| refine awse_intro (cc7 ..) (fun hrun => ?_)| refine awse_intro (cc8 ..) (fun hrun => ?_)| refine awse_intro (cc9 ..) (fun hrun => ?_)| refine awse_intro (cc10 ..) (fun hrun => ?_)| refine awse_intro (cc11 ..) (fun hrun => ?_)| refine awse_intro (cc12 ..) (fun hrun => ?_)| refine awse_intro (ARun.lendA dd1) (fun hrun => ?_)| refine awse_intro (ARun.lendA dd2) (fun hrun => ?_)| refine awse_intro (ARun.lendA dd3) (fun hrun => ?_)| refine awse_intro (ARun.lendA dd4) (fun hrun => ?_)| refine awse_intro (ARun.lendA dd5) (fun hrun => ?_)| refine awse_intro (ARun.lendA dd6) (fun hrun => ?_)| refine awse_intro (ARun.lendA dd7) (fun hrun => ?_)| refine awse_intro (ARun.lendA dd8) (fun hrun => ?_)) | (show PGE _ _ _ _ _; first | refine pge_intro (cc1 ..) (fun tm' => ?_)| refine pge_intro (cc2 ..) (fun tm' => ?_)| refine pge_intro (cc3 ..) (fun tm' => ?_)| refine pge_intro (cc4 ..) (fun tm' => ?_)| refine pge_intro (cc5 ..) (fun tm' => ?_)| refine pge_intro (cc6 ..) (fun tm' => ?_)| refine pge_intro (cc7 ..) (fun tm' => ?_)| refine pge_intro (cc8 ..) (fun tm' => ?_)| refine pge_intro (cc9 ..) (fun tm' => ?_)| refine pge_intro (cc10 ..) (fun tm' => ?_)| refine pge_intro (cc11 ..) (fun tm' => ?_)| refine pge_intro (cc12 ..) (fun tm' => ?_))) <;> (simp only [go_sem, Nat.reduceAdd, Nat.reduceSub, Nat.reduceMul, Nat.reduceLeDiff, Nat.reduceLT, Nat.reduceEqDiff, Int.reduceToNat, Int.reduceAdd, Int.reduceMul, Int.reduceSub, Int.reduceLT, Int.reduceLE, Int.reduceEq, Int.reduceNeg, Int.reduceBEq, Int.reduceBNe, ↓reduceIte, reduceCtorEq, List.set_set, Nat.mul_one, bne_self_eq_false, List.length_replicate, Int.le_refl, ww1, ww2, ww3, ww4, ww5, ww6, ww7, ww8, ww9, ww10, ww11, ww12, ww13, ww14, ww15, ww16] <;> try simp (disch := omega) only [wrap_of])) | (refine hn _ _ ?_; clear hn hp Kn Kp) | (refine hp _ _ _ ?_; clear hn hp Kn Kp) | (refine awp_cond rfl (fun hb => ?_) (fun hb => ?_) <;> (try simp only [decide_eq_true_eq, decide_eq_false_iff_not, Bool.not_eq_true', Bool.not_eq_false', Bool.true_eq_false, Bool.false_eq_true, beq_iff_eq, bne_iff_ne, bne_eq_false_iff_eq, beq_eq_false_iff_ne, gt_iff_lt, ge_iff_le, Int.reduceEq, Int.reduceNe, Int.reduceLT, Int.reduceLE, ne_eq, not_true_eq_false, not_false_eq_true] at hb) <;> replace hP := And.intro hb hP) | ((first | refine awg_split (fun hb => ?_) (fun hb => ?_) | refine awsg_split (fun hb => ?_) (fun hb => ?_)) <;> have hb0 := hb <;> (try simp only [decide_eq_true_eq, decide_eq_false_iff_not, Bool.not_eq_true', Bool.not_eq_false', Bool.true_eq_false, Bool.false_eq_true, beq_iff_eq, bne_iff_ne, bne_eq_false_iff_eq, beq_eq_false_iff_ne, gt_iff_lt, ge_iff_le, Int.reduceEq, Int.reduceNe, Int.reduceLT, Int.reduceLE, ne_eq, not_true_eq_false, not_false_eq_true] at hb0) <;> (try simp only [beq_true, beq_false, Bool.not_eq_true', Bool.not_eq_false'] at hb) <;> (simp only [go_sem, Nat.reduceAdd, Nat.reduceSub, Nat.reduceMul, Nat.reduceLeDiff, Nat.reduceLT, Nat.reduceEqDiff, Int.reduceToNat, Int.reduceAdd, Int.reduceMul, Int.reduceSub, Int.reduceLT, Int.reduceLE, Int.reduceEq, Int.reduceNeg, Int.reduceBEq, Int.reduceBNe, ↓reduceIte, reduceCtorEq, List.set_set, Nat.mul_one, bne_self_eq_false, List.length_replicate, Int.le_refl, ww1, ww2, ww3, ww4, ww5, ww6, ww7, ww8, ww9, ww10, ww11, ww12, ww13, ww14, ww15, ww16, hb, hb0] <;> try simp (disch := omega) only [wrap_of]) <;> replace hP := And.intro hb0 hP) | (refine And.intro ?_ ?_) | (show SameAt _ _ _; repeat' (first | exact True.intro | exact rfl | refine And.intro ?_ ?_)) | refine awp_skip ?_ | refine awp_ret ?_ | refine awp_exit ?_ | refine awp_label ?_ | refine awloop_step ?_ | fail)); all_goals (first | (revert hP; first | exact l1.o | exact l2.o | exact l3.o | exact l4.o | exact l5.o | exact l6.o | exact l7.o | exact l8.o | exact l9.o | exact l10.o | exact l11.o | exact l12.o | exact l13.o | exact l14.o | exact l15.o | exact l16.o | exact l17.o | exact l18.o | exact l19.o | exact l20.o | exact l21.o | exact l22.o | exact l23.o | exact l24.o | exact l25.o | exact l26.o | exact l27.o | exact l28.o | exact l29.o | exact l30.o | exact l31.o | exact l32.o) | exact Fl.t | exact Fl.any _)) : p := (h ⟨k.1⟩ ⟨(k.2).1⟩ ⟨(k.2.2).1⟩ ⟨(k.2.2.2).1⟩ ⟨(k.2.2.2.2).1⟩ ⟨(k.2.2.2.2.2).1⟩ ⟨(k.2.2.2.2.2.2).1⟩ ⟨(k.2.2.2.2.2.2.2).1⟩ ⟨(k.2.2.2.2.2.2.2.2).1⟩ ⟨(k.2.2.2.2.2.2.2.2.2).1⟩ ⟨(k.2.2.2.2.2.2.2.2.2.2).1⟩ ⟨(k.2.2.2.2.2.2.2.2.2.2.2).1⟩ ⟨(k.2.2.2.2.2.2.2.2.2.2.2.2).1⟩ ⟨(k.2.2.2.2.2.2.2.2.2.2.2.2.2).1⟩ ⟨(k.2.2.2.2.2.2.2.2.2.2.2.2.2.2).1⟩ ⟨(k.2.2.2.2.2.2.2.2.2.2.2.2.2.2.2).1⟩ ⟨(k.2.2.2.2.2.2.2.2.2.2.2.2.2.2.2.2).1⟩ ⟨(k.2.2.2.2.2.2.2.2.2.2.2.2.2.2.2.2.2).1⟩ ⟨(k.2.2.2.2.2.2.2.2.2.2.2.2.2.2.2.2.2.2).1⟩ ⟨(k.2.2.2.2.2.2.2.2.2.2.2.2.2.2.2.2.2.2.2).1⟩ ⟨(k.2.2.2.2.2.2.2.2.2.2.2.2.2.2.2.2.2.2.2.2).1⟩ ⟨(k.2.2.2.2.2.2.2.2.2.2.2.2.2.2.2.2.2.2.2.2.2).1⟩ ⟨(k.2.2.2.2.2.2.2.2.2.2.2.2.2.2.2.2.2.2.2.2.2.2).1⟩ ⟨(k.2.2.2.2.2.2.2.2.2.2.2.2.2.2.2.2.2.2.2.2.2.2.2).1⟩ ⟨(k.2.2.2.2.2.2.2.2.2.2.2.2.2.2.2.2.2.2.2.2.2.2.2.2).1⟩ ⟨(k.2.2.2.2.2.2.2.2.2.2.2.2.2.2.2.2.2.2.2.2.2.2.2.2.2).1⟩ ⟨(k.2.2.2.2.2.2.2.2.2.2.2.2.2.2.2.2.2.2.2.2.2.2.2.2.2.2).1⟩ ⟨(k.2.2.2.2.2.2.2.2.2.2.2.2.2.2.2.2.2.2.2.2.2.2.2.2.2.2.2).1⟩ ⟨(k.2.2.2.2.2.2.2.2.2.2.2.2.2.2.2.2.2.2.2.2.2.2.2.2.2.2.2.2).1⟩ ⟨(k.2.2.2.2.2.2.2.2.2.2.2.2.2.2.2.2.2.2.2.2.2.2.2.2.2.2.2.2.2).1⟩ ⟨(k.2.2.2.2.2.2.2.2.2.2.2.2.2.2.2.2.2.2.2.2.2.2.2.2.2.2.2.2.2.2).1⟩ ⟨k.2.2.2.2.2.2.2.2.2.2.2.2.2.2.2.2.2.2.2.2.2.2.2.2.2.2.2.2.2.2.2⟩).1
theorem wkO {p q1 q2 q3 q4 q5 q6 q7 q8 q9 q10 q11 q12 q13 q14 q15 q16 q17 q18 q19 q20 q21 q22 q23 q24 q25 q26 q27 q28 q29 q30 q31 q32 : Prop} (k : Lf q1 (Lf q2 (Lf q3 (Lf q4 (Lf q5 (Lf q6 (Lf q7 (Lf q8 (Lf q9 (Lf q10 (Lf q11 (Lf q12 (Lf q13 (Lf q14 (Lf q15 (Lf q16 (Lf q17 (Lf q18 (Lf q19 (Lf q20 (Lf q21 (Lf q22 (Lf q23 (Lf q24 (Lf q25 (Lf q26 (Lf q27 (Lf q28 (Lf q29 (Lf q30 (Lf q31 q32))))))))))))))))))))))))))))))) (h : Bx q1 → Bx q2 → Bx q3 → Bx q4 → Bx q5 → Bx q6 → Bx q7 → Bx q8 → Bx q9 → Bx q10 → Bx q11 → Bx q12 → Bx q13 → Bx q14 → Bx q15 → Bx q16 → Bx q17 → Bx q18 → Bx q19 → Bx q20 → Bx q21 → Bx q22 → Bx q23 → Bx q24 → Bx q25 → Bx q26 → Bx q27 → Bx q28 → Bx q29 → Bx q30 → Bx q31 → Bx q32 → p ∧ Fl q1 ∧ Fl q2 ∧ Fl q3 ∧ Fl q4 ∧ Fl q5 ∧ Fl q6 ∧ Fl q7 ∧ Fl q8 ∧ Fl q9 ∧ Fl q10 ∧ Fl q11 ∧ Fl q12 ∧ Fl q13 ∧ Fl q14 ∧ Fl q15 ∧ Fl q16 ∧ Fl q17 ∧ Fl q18 ∧ Fl q19 ∧ Fl q20 ∧ Fl q21 ∧ Fl q22 ∧ Fl q23 ∧ Fl q24 ∧ Fl q25 ∧ Fl q26 ∧ Fl q27 ∧ Fl q28 ∧ Fl q29 ∧ Fl q30 ∧ Fl q31 ∧ Fl q32 := by
    intro l1 l2 l3 l4 l5 l6 l7 l8 l9 l10 l11 l12 l13 l14 l15 l16 l17 l18 l19 l20 l21 l22 l23 l24 l25 l26 l27 l28 l29 l30 l31 l32; refine ⟨?_, ?_, ?_, ?_, ?_, ?_, ?_, ?_, ?_, ?_, ?_, ?_, ?_, ?_, ?_, ?_, ?_, ?_, ?_, ?_, ?_, ?_, ?_, ?_, ?_, ?_, ?_, ?_, ?_, ?_, ?_, ?_, ?_⟩; have hP := True.intro; (first | have ww1 := @ww1 | have ww1 := True.intro); (first | have ww2 := @ww2 | have ww2 := True.intro); (first | have ww3 := @ww3 | have ww3 := True.intro); (first | have ww4 := @ww4 | have ww4 := True.intro); (first | have ww5 := @ww5 | have ww5 := True.intro); (first | have ww6 := @ww6 | have ww6 := True.intro); (first | have ww7 := @ww7 | have ww7 := True.intro); (first | have ww8 := @ww8 | have ww8 := True.intro); (first | have ww9 := @ww9 | have ww9 := True.intro); (first | have ww10 := @ww10 | have ww10 := True.intro); (first | have ww11 := @ww11 | have ww11 := True.intro); (first | have ww12 := @ww12 | have ww12 := True.intro); (first | have ww13 := @ww13 | have ww13 := True.intro); (first | have ww14 := @ww14 | have ww14 := True.intro); (first | have ww15 := @ww15 | have ww15 := True.intro); (first | have ww16 := @ww16 | have ww16 := True.intro); (repeat' (first | refine awp_seq ?_ | refine awp_block ?_ | refine awp_scope ?_ | ((first | refine awp_region_k fun Kn Kp hn hp => ?_ | (show AWP _ _ (Code.region _ _ true) _ _ _; first | refine Drawn.go rr1 (by rfl) fun Kn Kp hn hp => ?_ | refine Drawn.go rr2 (by rfl) fun Kn Kp hn hp => ?_ | refine Drawn.go rr3 (by rfl) fun Kn Kp hn hp => ?_ | refine Drawn.go rr4 (by rfl) fun Kn Kp hn hp => ?_ | refine Drawn.go rr5 (by rfl) fun Kn Kp hn hp => ?_ | refine Drawn.go rr6 (by rfl) fun Kn Kp hn hp => ?_ | refine Drawn.goS rr1 (by rfl) fun Kn Kp hn hp => ?_ | refine Drawn.goS rr2 (by rfl) fun Kn Kp hn hp => ?_ | refine Drawn.goS rr3 (by rfl) fun Kn Kp hn hp => ?_ | refine Drawn.goS rr4 (by rfl) fun Kn Kp hn hp => ?_ | refine Drawn.goS rr5 (by rfl) fun Kn Kp hn hp => ?_ | refine Drawn.goS rr6 (by rfl) fun Kn Kp hn hp => ?_) | refine oge_intro (by assumption) ?_ | (show AWE _ _ _ _ _ _ _ _ _; first | refine awe_intro (cc1 ..) ?_| refine awe_intro (cc2 ..) ?_| refine awe_intro (cc3 ..) ?_| refine awe_intro (cc4 ..) ?_| refine awe_intro (cc5 ..) ?_| refine awe_intro (cc6 ..) ?_| refine awe_intro (cc7 ..) ?_| refine awe_intro (cc8 ..) ?_| refine awe_intro (cc9 ..) ?_| refine awe_intro (cc10 ..) ?_| refine awe_intro (cc11 ..) ?_| refine awe_intro (cc12 ..) ?_| refine awe_intro (ARun.lendA dd1) ?_| refine awe_intro (ARun.lendA dd2) ?_| refine awe_intro (ARun.lendA dd3) ?_| refine awe_intro (ARun.lendA dd4) ?_| refine awe_intro (ARun.lendA dd5) ?_| refine awe_intro (ARun.lendA dd6) ?_| refine awe_intro (ARun.lendA dd7) ?_| refine awe_intro (ARun.lendA dd8) ?_) | (show AWSF _ _ _ _ _ _ _ _ _ _ _; first | refine awsf_intro (cc1 ..) (fun hrun => ?_)| refine awsf_intro (cc2 ..) (fun hrun => ?_)| refine awsf_intro (cc3 ..) (fun hrun => ?_)| refine awsf_intro (cc4 ..) (fun hrun => ?_)| refine awsf_intro (cc5 ..) (fun hrun => ?_)| refine awsf_intro (cc6 ..) (fun hrun => ?_)| refine awsf_intro (cc7 ..) (fun hrun => ?_)| refine awsf_intro (cc8 ..) (fun hrun => ?_)| refine awsf_intro (cc9 ..) (fun hrun => ?_)| refine awsf_intro (cc10 ..) (fun hrun => ?_)| refine awsf_intro (cc11 ..) (fun hrun => ?_)| refine awsf_intro (cc12 ..) (fun hrun => ?_)| refine awsf_intro (ARun.lendA dd1) (fun hrun => ?_)| refine awsf_intro (ARun.lendA dd2) (fun hrun => ?_)| refine awsf_intro (ARun.lendA dd3) (fun hrun => ?_)| refine awsf_intro (ARun.lendA dd4) (fun hrun => ?_)| refine awsf_intro (ARun.lendA dd5) (fun hrun => ?_)| refine awsf_intro (ARun.lendA dd6) (fun hrun => ?_)| refine awsf_intro (ARun.lendA dd7) (fun hrun => ?_)| refine awsf_intro (ARun.lendA dd8) (fun hrun => ?_)) | (show OGE _ _ _ _ _ _ _; first | refine oge_intro (cc1 ..) ?_| refine oge_intro (cc2 ..) ?_| refine oge_intro (cc3 ..) ?_| refine oge_intro (cc4 ..) ?_| refine oge_intro (cc5 ..) ?_| refine oge_intro (cc6 ..) ?_| refine oge_intro (cc7 ..) ?_| refine oge_intro (cc8 ..) ?_| refine oge_intro (cc9 ..) ?_| refine oge_intro (cc10 ..) ?_| refine oge_intro (cc11 ..) ?_| refine oge_intro (cc12 ..) ?_| refine oge_intro (ARun.lendA dd1) ?_| refine oge_intro (ARun.lendA dd2) ?_| refine oge_intro (ARun.lendA dd3) ?_| refine oge_intro (ARun.lendA dd4) ?_| refine oge_intro (ARun.lendA dd5) ?_| refine oge_intro (ARun.lendA dd6) ?_| refine oge_intro (ARun.lendA dd7) ?_| refine oge_intro (ARun.lendA dd8) ?_) | (show AWSE _ _ _ _ _ _ _ _ _ _ _; first | refine awse_intro (cc1 ..) (fun hrun => ?_)| refine awse_intro (cc2 ..) (fun hrun => ?_)| refine awse_intro (cc3 ..) (fun hrun => ?_)| refine awse_intro (cc4 ..) (fun hrun => ?_)| refine awse_intro (cc5 ..) (fun hrun => ?_)| refine awse_intro (cc6 ..) (fun hrun => ?_)| refine awse_intro (cc7 ..) (fun hrun => ?_)| refine awse_intro (cc8 ..) (fun hrun => ?_)| refine awse_intro (cc9 ..) (fun hrun => ?_)| refine awse_intro (cc10 ..) (fun hrun => ?_)| refine awse_intro (cc11 ..) (fun hrun => ?_)| refine awse_intro (cc12 ..) (fun hrun => ?_)| refine awse_intro (ARun.lendA dd1) (fun hrun => ?_)| refine awse_intro (ARun.lendA dd2) (fun hrun => ?_)| refine awse_intro (ARun.lendA dd3) (fun hrun => ?_)| refine awse_intro (ARun.lendA dd4) (fun hrun => ?_)| refine awse_intro (ARun.lendA dd5) (fun hrun => ?_)| refine awse_intro (ARun.lendA dd6) (fun hrun => ?_)| refine awse_intro (ARun.lendA dd7) (fun hrun => ?_)| refine awse_intro (ARun.lendA dd8) (fun hrun => ?_)) | (show PGE _ _ _ _ _; first | refine pge_intro (cc1 ..) (fun tm' => ?_)| refine pge_intro (cc2 ..) (fun tm' => ?_)| refine pge_intro (cc3 ..) (fun tm' => ?_)| refine pge_intro (cc4 ..) (fun tm' => ?_)| refine pge_intro (cc5 ..) (fun tm' => ?_)| refine pge_intro (cc6 ..) (fun tm' => ?_)| refine pge_intro (cc7 ..) (fun tm' => ?_)| refine pge_intro (cc8 ..) (fun tm' => ?_)| refine pge_intro (cc9 ..) (fun tm' => ?_)| refine pge_intro (cc10 ..) (fun tm' => ?_)| refine pge_intro (cc11 ..) (fun tm' => ?_)| refine pge_intro (cc12 ..) (fun tm' => ?_))) <;> (simp only [go_sem, Nat.reduceAdd, Nat.reduceSub, Nat.reduceMul, Nat.reduceLeDiff, Nat.reduceLT, Nat.reduceEqDiff, Int.reduceToNat, Int.reduceAdd, Int.reduceMul, Int.reduceSub, Int.reduceLT, Int.reduceLE, Int.reduceEq, Int.reduceNeg, Int.reduceBEq, Int.reduceBNe, ↓reduceIte, reduceCtorEq, List.set_set, Nat.mul_one, bne_self_eq_false, List.length_replicate, Int.le_refl, ww1, ww2, ww3, ww4, ww5, ww6, ww7, ww8, ww9, ww10, ww11, ww12, ww13, ww14, ww15, ww16] <;> try simp (disch := omega) only [wrap_of])) | (refine hn _ _ ?_; clear hn hp Kn Kp) | (refine hp _ _ _ ?_; clear hn hp Kn Kp) | (simp (disch := omega) only [getSkip16, setSkip16, getAt1, setAt1, getAt2, setAt2, getAt3, setAt3, getAt4, setAt4, getAt5, setAt5, getAt6, setAt6, getAt7, setAt7, getAt8, setAt8, getAt9, setAt9, getAt10, setAt10, getAt11, setAt11, getAt12, setAt12, getAt13, setAt13, getAt14, setAt14, getAt15, setAt15, go_sem, Nat.reduceAdd, Nat.reduceSub, Nat.reduceMul, Nat.reduceLeDiff, Nat.reduceLT, Nat.reduceEqDiff, Int.reduceToNat, Int.reduceAdd, Int.reduceMul, Int.reduceSub, Int.reduceLT, Int.reduceLE, Int.reduceEq, Int.reduceNeg, Int.reduceBEq, Int.reduceBNe, ↓reduceIte, reduceCtorEq, List.set_set, Nat.mul_one, bne_self_eq_false, List.length_replicate, Int.le_refl, ww1, ww2, ww3, ww4, ww5, ww6, ww7, ww8, ww9, ww10, ww11, ww12, ww13, ww14, ww15, ww16, if_pos, if_neg, decide_pos', decide_neg', beq_pos', beq_neg', bne_pos', bne_neg', getE, wrap_of]) | (refine awp_cond_t rfl (by first | with_reducible rfl | (simp only [Bool.and_eq_true, Bool.or_eq_true, Bool.and_eq_false_iff, Bool.or_eq_false_iff, decide_eq_true_eq, decide_eq_false_iff_not, beq_iff_eq, bne_iff_ne, bne_eq_false_iff_eq, beq_eq_false_iff_ne, ne_eq, Bool.not_eq_true', Bool.not_eq_false', not_true_eq_false, not_false_eq_true]; omega)) ?_) | (refine awp_cond_f rfl (by first | with_reducible rfl | (simp only [Bool.and_eq_true, Bool.or_eq_true, Bool.and_eq_false_iff, Bool.or_eq_false_iff, decide_eq_true_eq, decide_eq_false_iff_not, beq_iff_eq, bne_iff_ne, bne_eq_false_iff_eq, beq_eq_false_iff_ne, ne_eq, Bool.not_eq_true', Bool.not_eq_false', not_true_eq_false, not_false_eq_true]; omega)) ?_) | (refine awp_cond rfl (fun hb => ?_) (fun hb => ?_) <;> (try simp only [decide_eq_true_eq, decide_eq_false_iff_not, Bool.not_eq_true', Bool.not_eq_false', Bool.true_eq_false, Bool.false_eq_true, beq_iff_eq, bne_iff_ne, Bool.or_eq_true, Bool.and_eq_true, Bool.or_eq_false_iff, Bool.and_eq_false_iff, bne_eq_false_iff_eq, beq_eq_false_iff_ne, gt_iff_lt, ge_iff_le, Int.reduceEq, Int.reduceNe, Int.reduceLT, Int.reduceLE, ne_eq, not_true_eq_false, not_false_eq_true] at hb) <;> replace hP := And.intro hb hP) | ((first | refine awg_split (fun hb => ?_) (fun hb => ?_) | refine awsg_split (fun hb => ?_) (fun hb => ?_)) <;> have hb0 := hb <;> (try simp only [decide_eq_true_eq, decide_eq_false_iff_not, Bool.not_eq_true', Bool.not_eq_false', Bool.true_eq_false, Bool.false_eq_true, beq_iff_eq, bne_iff_ne, Bool.or_eq_true, Bool.and_eq_true, Bool.or_eq_false_iff, Bool.and_eq_false_iff, bne_eq_false_iff_eq, beq_eq_false_iff_ne, gt_iff_lt, ge_iff_le, Int.reduceEq, Int.reduceNe, Int.reduceLT, Int.reduceLE, ne_eq, not_true_eq_false, not_false_eq_true] at hb0) <;> (try simp only [beq_true, beq_false, Bool.not_eq_true', Bool.not_eq_false'] at hb) <;> (simp only [go_sem, Nat.reduceAdd, Nat.reduceSub, Nat.reduceMul, Nat.reduceLeDiff, Nat.reduceLT, Nat.reduceEqDiff, Int.reduceToNat, Int.reduceAdd, Int.reduceMul, Int.reduceSub, Int.reduceLT, Int.reduceLE, Int.reduceEq, Int.reduceNeg, Int.reduceBEq, Int.reduceBNe, ↓reduceIte, reduceCtorEq, List.set_set, Nat.mul_one, bne_self_eq_false, List.length_replicate, Int.le_refl, ww1, ww2, ww3, ww4, ww5, ww6, ww7, ww8, ww9, ww10, ww11, ww12, ww13, ww14, ww15, ww16, hb, hb0] <;> try simp (disch := omega) only [wrap_of]) <;> replace hP := And.intro hb0 hP) | (refine And.intro ?_ ?_) | (show SameAt _ _ _; repeat' (first | exact True.intro | exact rfl | refine And.intro ?_ ?_)) | refine awp_skip ?_ | refine awp_ret ?_ | refine awp_exit ?_ | refine awp_label ?_ | refine awloop_step ?_ | fail)); all_goals (first | (revert hP; first | exact l1.o | exact l2.o | exact l3.o | exact l4.o | exact l5.o | exact l6.o | exact l7.o | exact l8.o | exact l9.o | exact l10.o | exact l11.o | exact l12.o | exact l13.o | exact l14.o | exact l15.o | exact l16.o | exact l17.o | exact l18.o | exact l19.o | exact l20.o | exact l21.o | exact l22.o | exact l23.o | exact l24.o | exact l25.o | exact l26.o | exact l27.o | exact l28.o | exact l29.o | exact l30.o | exact l31.o | exact l32.o) | exact Fl.t | exact Fl.any _)) : p := (h ⟨k.1⟩ ⟨(k.2).1⟩ ⟨(k.2.2).1⟩ ⟨(k.2.2.2).1⟩ ⟨(k.2.2.2.2).1⟩ ⟨(k.2.2.2.2.2).1⟩ ⟨(k.2.2.2.2.2.2).1⟩ ⟨(k.2.2.2.2.2.2.2).1⟩ ⟨(k.2.2.2.2.2.2.2.2).1⟩ ⟨(k.2.2.2.2.2.2.2.2.2).1⟩ ⟨(k.2.2.2.2.2.2.2.2.2.2).1⟩ ⟨(k.2.2.2.2.2.2.2.2.2.2.2).1⟩ ⟨(k.2.2.2.2.2.2.2.2.2.2.2.2).1⟩ ⟨(k.2.2.2.2.2.2.2.2.2.2.2.2.2).1⟩ ⟨(k.2.2.2.2.2.2.2.2.2.2.2.2.2.2).1⟩ ⟨(k.2.2.2.2.2.2.2.2.2.2.2.2.2.2.2).1⟩ ⟨(k.2.2.2.2.2.2.2.2.2.2.2.2.2.2.2.2).1⟩ ⟨(k.2.2.2.2.2.2.2.2.2.2.2.2.2.2.2.2.2).1⟩ ⟨(k.2.2.2.2.2.2.2.2.2.2.2.2.2.2.2.2.2.2).1⟩ ⟨(k.2.2.2.2.2.2.2.2.2.2.2.2.2.2.2.2.2.2.2).1⟩ ⟨(k.2.2.2.2.2.2.2.2.2.2.2.2.2.2.2.2.2.2.2.2).1⟩ ⟨(k.2.2.2.2.2.2.2.2.2.2.2.2.2.2.2.2.2.2.2.2.2).1⟩ ⟨(k.2.2.2.2.2.2.2.2.2.2.2.2.2.2.2.2.2.2.2.2.2.2).1⟩ ⟨(k.2.2.2.2.2.2.2.2.2.2.2.2.2.2.2.2.2.2.2.2.2.2.2).1⟩ ⟨(k.2.2.2.2.2.2.2.2.2.2.2.2.2.2.2.2.2.2.2.2.2.2.2.2).1⟩ ⟨(k.2.2.2.2.2.2.2.2.2.2.2.2.2.2.2.2.2.2.2.2.2.2.2.2.2).1⟩ ⟨(k.2.2.2.2.2.2.2.2.2.2.2.2.2.2.2.2.2.2.2.2.2.2.2.2.2.2).1⟩ ⟨(k.2.2.2.2.2.2.2.2.2.2.2.2.2.2.2.2.2.2.2.2.2.2.2.2.2.2.2).1⟩ ⟨(k.2.2.2.2.2.2.2.2.2.2.2.2.2.2.2.2.2.2.2.2.2.2.2.2.2.2.2.2).1⟩ ⟨(k.2.2.2.2.2.2.2.2.2.2.2.2.2.2.2.2.2.2.2.2.2.2.2.2.2.2.2.2.2).1⟩ ⟨(k.2.2.2.2.2.2.2.2.2.2.2.2.2.2.2.2.2.2.2.2.2.2.2.2.2.2.2.2.2.2).1⟩ ⟨k.2.2.2.2.2.2.2.2.2.2.2.2.2.2.2.2.2.2.2.2.2.2.2.2.2.2.2.2.2.2.2⟩).1
theorem wkS {p q1 q2 q3 q4 q5 q6 q7 q8 q9 q10 q11 q12 q13 q14 q15 q16 q17 q18 q19 q20 q21 q22 q23 q24 q25 q26 q27 q28 q29 q30 q31 q32 : Prop} (k : Lf q1 (Lf q2 (Lf q3 (Lf q4 (Lf q5 (Lf q6 (Lf q7 (Lf q8 (Lf q9 (Lf q10 (Lf q11 (Lf q12 (Lf q13 (Lf q14 (Lf q15 (Lf q16 (Lf q17 (Lf q18 (Lf q19 (Lf q20 (Lf q21 (Lf q22 (Lf q23 (Lf q24 (Lf q25 (Lf q26 (Lf q27 (Lf q28 (Lf q29 (Lf q30 (Lf q31 q32))))))))))))))))))))))))))))))) (h : Bx q1 → Bx q2 → Bx q3 → Bx q4 → Bx q5 → Bx q6 → Bx q7 → Bx q8 → Bx q9 → Bx q10 → Bx q11 → Bx q12 → Bx q13 → Bx q14 → Bx q15 → Bx q16 → Bx q17 → Bx q18 → Bx q19 → Bx q20 → Bx q21 → Bx q22 → Bx q23 → Bx q24 → Bx q25 → Bx q26 → Bx q27 → Bx q28 → Bx q29 → Bx q30 → Bx q31 → Bx q32 → p ∧ Fl q1 ∧ Fl q2 ∧ Fl q3 ∧ Fl q4 ∧ Fl q5 ∧ Fl q6 ∧ Fl q7 ∧ Fl q8 ∧ Fl q9 ∧ Fl q10 ∧ Fl q11 ∧ Fl q12 ∧ Fl q13 ∧ Fl q14 ∧ Fl q15 ∧ Fl q16 ∧ Fl q17 ∧ Fl q18 ∧ Fl q19 ∧ Fl q20 ∧ Fl q21 ∧ Fl q22 ∧ Fl q23 ∧ Fl q24 ∧ Fl q25 ∧ Fl q26 ∧ Fl q27 ∧ Fl q28 ∧ Fl q29 ∧ Fl q30 ∧ Fl q31 ∧ Fl q32 := by
    intro l1 l2 l3 l4 l5 l6 l7 l8 l9 l10 l11 l12 l13 l14 l15 l16 l17 l18 l19 l20 l21 l22 l23 l24 l25 l26 l27 l28 l29 l30 l31 l32; refine ⟨?_, ?_, ?_, ?_, ?_, ?_, ?_, ?_, ?_, ?_, ?_, ?_, ?_, ?_, ?_, ?_, ?_, ?_, ?_, ?_, ?_, ?_, ?_, ?_, ?_, ?_, ?_, ?_, ?_, ?_, ?_, ?_, ?_⟩; have hP := True.intro; (first | have ww1 := @ww1 | have ww1 := True.intro); (first | have ww2 := @ww2 | have ww2 := True.intro); (first | have ww3 := @ww3 | have ww3 := True.intro); (first | have ww4 := @ww4 | have ww4 := True.intro); (first | have ww5 := @ww5 | have ww5 := True.intro); (first | have ww6 := @ww6 | have ww6 := True.intro); (first | have ww7 := @ww7 | have ww7 := True.intro); (first | have ww8 := @ww8 | have ww8 := True.intro); (first | have ww9 := @ww9 | have ww9 := True.intro); (first | have ww10 := @ww10 | have ww10 := True.intro); (first | have ww11 := @ww11 | have ww11 := True.intro); (first | have ww12 := @ww12 | have ww12 := True.intro); (first | have ww13 := @ww13 | have ww13 := True.intro); (first | have ww14 := @ww14 | have ww14 := True.intro); (first | have ww15 := @ww15 | have ww15 := True.intro); (first | have ww16 := @ww16 | have ww16 := True.intro); (repeat' (first | refine awp_seq ?_ | refine awp_block ?_ | refine awp_scope ?_ | ((first | refine awp_region_k fun Kn Kp hn hp => ?_ | (show AWP _ _ (Code.region _ _ true) _ _ _; first | refine Drawn.go rr1 (by rfl) fun Kn Kp hn hp => ?_ | refine Drawn.go rr2 (by rfl) fun Kn Kp hn hp => ?_ | refine Drawn.go rr3 (by rfl) fun Kn Kp hn hp => ?_ | refine Drawn.go rr4 (by rfl) fun Kn Kp hn hp => ?_ | refine Drawn.go rr5 (by rfl) fun Kn Kp hn hp => ?_ | refine Drawn.go rr6 (by rfl) fun Kn Kp hn hp => ?_ | refine Drawn.goS rr1 (by rfl) fun Kn Kp hn hp => ?_ | refine Drawn.goS rr2 (by rfl) fun Kn Kp hn hp => ?_ | refine Drawn.goS rr3 (by rfl) fun Kn Kp hn hp => ?_ | refine Drawn.goS rr4 (by rfl) fun Kn Kp hn hp => ?_ | refine Drawn.goS rr5 (by rfl) fun Kn Kp hn hp => ?_ | refine Drawn.goS rr6 (by rfl) fun Kn Kp hn hp => ?_) | refine oge_intro (by assumption) ?_ | (show AWE _ _ _ _ _ _ _ _ _; first | refine awe_intro (cc1 ..) ?_| refine awe_intro (cc2 ..) ?_| refine awe_intro (cc3 ..) ?_| refine awe_intro (cc4 ..) ?_| refine awe_intro (cc5 ..) ?_| refine awe_intro (cc6 ..) ?_| refine awe_intro (cc7 ..) ?_| refine awe_intro (cc8 ..) ?_| refine awe_intro (cc9 ..) ?_| refine awe_intro (cc10 ..) ?_| refine awe_intro (cc11 ..) ?_| refine awe_intro (cc12 ..) ?_| refine awe_intro (ARun.lendA dd1) ?_| refine awe_intro (ARun.lendA dd2) ?_| refine awe_intro (ARun.lendA dd3) ?_| refine awe_intro (ARun.lendA dd4) ?_| refine awe_intro (ARun.lendA dd5) ?_| refine awe_intro (ARun.lendA dd6) ?_| refine awe_intro (ARun.lendA dd7) ?_| refine awe_intro (ARun.lendA dd8) ?_) | (show AWSF _ _ _ _ _ _ _ _ _ _ _; first | refine awsf_intro (cc1 ..) (fun hrun => ?_)| refine awsf_intro (cc2 ..) (fun hrun => ?_)| refine awsf_intro (cc3 ..) (fun hrun => ?_)| refine awsf_intro (cc4 ..) (fun hrun => ?_)| refine awsf_intro (cc5 ..) (fun hrun => ?_)| refine awsf_intro (cc6 ..) (fun hrun => ?_)| refine awsf_intro (cc7 ..) (fun hrun => ?_)| refine awsf_intro (cc8 ..) (fun hrun => ?_)| refine awsf_intro (cc9 ..) (fun hrun => ?_)| refine awsf_intro (cc10 ..) (fun hrun => ?_)| refine awsf_intro (cc11 ..) (fun hrun => ?_)| refine awsf_intro (cc12 ..) (fun hrun => ?_)| refine awsf_intro (ARun.lendA dd1) (fun hrun => ?_)| refine awsf_intro (ARun.lendA dd2) (fun hrun => ?_)| refine awsf_intro (ARun.lendA dd3) (fun hrun => ?_)| refine awsf_intro (ARun.lendA dd4) (fun hrun => ?_)| refine awsf_intro (ARun.lendA dd5) (fun hrun => ?_)| refine awsf_intro (ARun.lendA dd6) (fun hrun => ?_)| refine awsf_intro (ARun.lendA dd7) (fun hrun => ?_)| refine awsf_intro (ARun.lendA dd8) (fun hrun => ?_)) | (show OGE _ _ _ _ _ _ _; first | refine oge_intro (cc1 ..) ?_| refine oge_intro (cc2 ..) ?_| refine oge_intro (cc3 ..) ?_| refine oge_intro (cc4 ..) ?_| refine oge_intro (cc5 ..) ?_| refine oge_intro (cc6 ..) ?_| refine oge_intro (cc7 ..) ?_| refine oge_intro (cc8 ..) ?_| refine oge_intro (cc9 ..) ?_| refine oge_intro (cc10 ..) ?_| refine oge_intro (cc11 ..) ?_| refine oge_intro (cc12 ..) ?_| refine oge_intro (ARun.lendA dd1) ?_| refine oge_intro (ARun.lendA dd2) ?_| refine oge_intro (ARun.lendA dd3) ?_| refine oge_intro (ARun.lendA dd4) ?_| refine oge_intro (ARun.lendA dd5) ?_| refine oge_intro (ARun.lendA dd6) ?_| refine oge_intro (ARun.lendA dd7) ?_| refine oge_intro (ARun.lendA dd8) ?_) | (show AWSE _ _ _ _ _ _ _ _ _ _ _; first | refine awse_intro (cc1 ..) (fun hrun => ?_)| refine awse_intro (cc2 ..) (fun hrun => ?_)| refine awse_intro (cc3 ..) (fun hrun => ?_)| refine awse_intro (cc4 ..) (fun hrun => ?_)| refine awse_intro (cc5 ..) (fun hrun => ?_)| refine awse_intro (cc6 ..) (fun hrun => ?_)| refine awse_intro (cc7 ..) (fun hrun => ?_)| refine awse_intro (cc8 ..) (fun hrun => ?_)| refine awse_intro (cc9 ..) (fun hrun => ?_)| refine awse_intro (cc10 ..) (fun hrun => ?_)| refine awse_intro (cc11 ..) (fun hrun => ?_)| refine awse_intro (cc12 ..) (fun hrun => ?_)| refine awse_intro (ARun.lendA dd1) (fun hrun => ?_)| refine awse_intro (ARun.lendA dd2) (fun hrun => ?_)| refine awse_intro (ARun.lendA dd3) (fun hrun => ?_)| refine awse_intro (ARun.lendA dd4) (fun hrun => ?_)| refine awse_intro (ARun.lendA dd5) (fun hrun => ?_)| refine awse_intro (ARun.lendA dd6) (fun hrun => ?_)| refine awse_intro (ARun.lendA dd7) (fun hrun => ?_)| refine awse_intro (ARun.lendA dd8) (fun hrun => ?_)) | (show PGE _ _ _ _ _; first | refine pge_intro (cc1 ..) (fun tm' => ?_)| refine pge_intro (cc2 ..) (fun tm' => ?_)| refine pge_intro (cc3 ..) (fun tm' => ?_)| refine pge_intro (cc4 ..) (fun tm' => ?_)| refine pge_intro (cc5 ..) (fun tm' => ?_)| refine pge_intro (cc6 ..) (fun tm' => ?_)| refine pge_intro (cc7 ..) (fun tm' => ?_)| refine pge_intro (cc8 ..) (fun tm' => ?_)| refine pge_intro (cc9 ..) (fun tm' => ?_)| refine pge_intro (cc10 ..) (fun tm' => ?_)| refine pge_intro (cc11 ..) (fun tm' => ?_)| refine pge_intro (cc12 ..) (fun tm' => ?_))) <;> (simp only [go_sem, Nat.reduceAdd, Nat.reduceSub, Nat.reduceMul, Nat.reduceLeDiff, Nat.reduceLT, Nat.reduceEqDiff, Int.reduceToNat, Int.reduceAdd, Int.reduceMul, Int.reduceSub, Int.reduceLT, Int.reduceLE, Int.reduceEq, Int.reduceNeg, Int.reduceBEq, Int.reduceBNe, ↓reduceIte, reduceCtorEq, List.set_set, Nat.mul_one, bne_self_eq_false, List.length_replicate, Int.le_refl, ww1, ww2, ww3, ww4, ww5, ww6, ww7, ww8, ww9, ww10, ww11, ww12, ww13, ww14, ww15, ww16] <;> try simp (disch := omega) only [wrap_of])) | (refine hn _ _ ?_; clear hn hp Kn Kp) | (refine hp _ _ _ ?_; clear hn hp Kn Kp) | (refine awp_cond rfl (fun hb => ?_) (fun hb => ?_) <;> (try simp only [decide_eq_true_eq, decide_eq_false_iff_not, Bool.not_eq_true', Bool.not_eq_false', Bool.true_eq_false, Bool.false_eq_true, beq_iff_eq, bne_iff_ne, bne_eq_false_iff_eq, beq_eq_false_iff_ne, gt_iff_lt, ge_iff_le, Int.reduceEq, Int.reduceNe, Int.reduceLT, Int.reduceLE, ne_eq, not_true_eq_false, not_false_eq_true] at hb) <;> replace hP := And.intro hb hP) | ((first | refine awg_split (fun hb => ?_) (fun hb => ?_) | refine awsg_split (fun hb => ?_) (fun hb => ?_)) <;> have hb0 := hb <;> (try simp only [decide_eq_true_eq, decide_eq_false_iff_not, Bool.not_eq_true', Bool.not_eq_false', Bool.true_eq_false, Bool.false_eq_true, beq_iff_eq, bne_iff_ne, bne_eq_false_iff_eq, beq_eq_false_iff_ne, gt_iff_lt, ge_iff_le, Int.reduceEq, Int.reduceNe, Int.reduceLT, Int.reduceLE, ne_eq, not_true_eq_false, not_false_eq_true] at hb0) <;> (try simp only [beq_true, beq_false, Bool.not_eq_true', Bool.not_eq_false'] at hb) <;> (simp only [go_sem, Nat.reduceAdd, Nat.reduceSub, Nat.reduceMul, Nat.reduceLeDiff, Nat.reduceLT, Nat.reduceEqDiff, Int.reduceToNat, Int.reduceAdd, Int.reduceMul, Int.reduceSub, Int.reduceLT, Int.reduceLE, Int.reduceEq, Int.reduceNeg, Int.reduceBEq, Int.reduceBNe, ↓reduceIte, reduceCtorEq, List.set_set, Nat.mul_one, bne_self_eq_false, List.length_replicate, Int.le_refl, ww1, ww2, ww3, ww4, ww5, ww6, ww7, ww8, ww9, ww10, ww11, ww12, ww13, ww14, ww15, ww16, hb, hb0] <;> try simp (disch := omega) only [wrap_of]) <;> replace hP := And.intro hb0 hP) | (refine And.intro ?_ ?_) | (show SameAt _ _ _; repeat' (first | exact True.intro | exact rfl | refine And.intro ?_ ?_)) | refine awp_skip ?_ | refine awp_ret ?_ | refine awp_exit ?_ | refine awp_label ?_ | refine awloop_step ?_ | (simp only [go_sem, Nat.reduceAdd, Nat.reduceSub, Nat.reduceMul, Nat.reduceLeDiff, Nat.reduceLT, Nat.reduceEqDiff, Int.reduceToNat, Int.reduceAdd, Int.reduceMul, Int.reduceSub, Int.reduceLT, Int.reduceLE, Int.reduceEq, Int.reduceNeg, Int.reduceBEq, Int.reduceBNe, ↓reduceIte, reduceCtorEq, List.set_set, Nat.mul_one, bne_self_eq_false, List.length_replicate, Int.le_refl, ww1, ww2, ww3, ww4, ww5, ww6, ww7, ww8, ww9, ww10, ww11, ww12, ww13, ww14, ww15, ww16]) | fail)); all_goals (first | (revert hP; first | exact l1.o | exact l2.o | exact l3.o | exact l4.o | exact l5.o | exact l6.o | exact l7.o | exact l8.o | exact l9.o | exact l10.o | exact l11.o | exact l12.o | exact l13.o | exact l14.o | exact l15.o | exact l16.o | exact l17.o | exact l18.o | exact l19.o | exact l20.o | exact l21.o | exact l22.o | exact l23.o | exact l24.o | exact l25.o | exact l26.o | exact l27.o | exact l28.o | exact l29.o | exact l30.o | exact l31.o | exact l32.o) | exact Fl.t | exact Fl.any _)) : p := (h ⟨k.1⟩ ⟨(k.2).1⟩ ⟨(k.2.2).1⟩ ⟨(k.2.2.2).1⟩ ⟨(k.2.2.2.2).1⟩ ⟨(k.2.2.2.2.2).1⟩ ⟨(k.2.2.2.2.2.2).1⟩ ⟨(k.2.2.2.2.2.2.2).1⟩ ⟨(k.2.2.2.2.2.2.2.2).1⟩ ⟨(k.2.2.2.2.2.2.2.2.2).1⟩ ⟨(k.2.2.2.2.2.2.2.2.2.2).1⟩ ⟨(k.2.2.2.2.2.2.2.2.2.2.2).1⟩ ⟨(k.2.2.2.2.2.2.2.2.2.2.2.2).1⟩ ⟨(k.2.2.2.2.2.2.2.2.2.2.2.2.2).1⟩ ⟨(k.2.2.2.2.2.2.2.2.2.2.2.2.2.2).1⟩ ⟨(k.2.2.2.2.2.2.2.2.2.2.2.2.2.2.2).1⟩ ⟨(k.2.2.2.2.2.2.2.2.2.2.2.2.2.2.2.2).1⟩ ⟨(k.2.2.2.2.2.2.2.2.2.2.2.2.2.2.2.2.2).1⟩ ⟨(k.2.2.2.2.2.2.2.2.2.2.2.2.2.2.2.2.2.2).1⟩ ⟨(k.2.2.2.2.2.2.2.2.2.2.2.2.2.2.2.2.2.2.2).1⟩ ⟨(k.2.2.2.2.2.2.2.2.2.2.2.2.2.2.2.2.2.2.2.2).1⟩ ⟨(k.2.2.2.2.2.2.2.2.2.2.2.2.2.2.2.2.2.2.2.2.2).1⟩ ⟨(k.2.2.2.2.2.2.2.2.2.2.2.2.2.2.2.2.2.2.2.2.2.2).1⟩ ⟨(k.2.2.2.2.2.2.2.2.2.2.2.2.2.2.2.2.2.2.2.2.2.2.2).1⟩ ⟨(k.2.2.2.2.2.2.2.2.2.2.2.2.2.2.2.2.2.2.2.2.2.2.2.2).1⟩ ⟨(k.2.2.2.2.2.2.2.2.2.2.2.2.2.2.2.2.2.2.2.2.2.2.2.2.2).1⟩ ⟨(k.2.2.2.2.2.2.2.2.2.2.2.2.2.2.2.2.2.2.2.2.2.2.2.2.2.2).1⟩ ⟨(k.2.2.2.2.2.2.2.2.2.2.2.2.2.2.2.2.2.2.2.2.2.2.2.2.2.2.2).1⟩ ⟨(k.2.2.2.2.2.2.2.2.2.2.2.2.2.2.2.2.2.2.2.2.2.2.2.2.2.2.2.2).1⟩ ⟨(k.2.2.2.2.2.2.2.2.2.2.2.2.2.2.2.2.2.2.2.2.2.2.2.2.2.2.2.2.2).1⟩ ⟨(k.2.2.2.2.2.2.2.2.2.2.2.2.2.2.2.2.2.2.2.2.2.2.2.2.2.2.2.2.2.2).1⟩ ⟨k.2.2.2.2.2.2.2.2.2.2.2.2.2.2.2.2.2.2.2.2.2.2.2.2.2.2.2.2.2.2.2⟩).1
theorem resX {p q1 : Prop} (k : q1) (h : Bx q1 → p ∧ Fl q1 := by
    intro l1; refine ⟨?_, ?_⟩; (· (try simp only [go_sem, Nat.reduceAdd, Nat.reduceSub, Nat.reduceMul, Nat.reduceLeDiff, Nat.reduceLT, Nat.reduceEqDiff, Int.reduceToNat, Int.reduceAdd, Int.reduceMul, Int.reduceSub, Int.reduceLT, Int.reduceLE, Int.reduceEq, Int.reduceNeg, Int.reduceBEq, Int.reduceBNe, ↓reduceIte, reduceCtorEq]); (first | refine ⟨_, rfl, _, rfl, Fin.pure0 0 ?_⟩ | refine ⟨_, rfl, _, rfl, Fin.pure 1 ?_⟩); simp only [AV.low, List.map_cons, List.map_nil, aOne, aev, List.getElem?_cons_zero, List.getElem?_cons_succ, Option.getD_some, List.length_append, List.length_cons, List.length_nil, Nat.lt_irrefl, if_false]; (try rfl); all_goals (first | exact l1.o)); all_goals (first | exact Fl.t | exact Fl.any _)) : p := (h ⟨k⟩).1
theorem resC {p q1 q2 q3 : Prop} (k : Lf q1 (Lf q2 q3)) (h : Bx q1 → Bx q2 → Bx q3 → p ∧ Fl q1 ∧ Fl q2 ∧ Fl q3 := by
    intro l1 l2 l3; refine ⟨?_, ?_, ?_, ?_⟩; (· (try simp only [go_sem, Nat.reduceAdd, Nat.reduceSub, Nat.reduceMul, Nat.reduceLeDiff, Nat.reduceLT, Nat.reduceEqDiff, Int.reduceToNat, Int.reduceAdd, Int.reduceMul, Int.reduceSub, Int.reduceLT, Int.reduceLE, Int.reduceEq, Int.reduceNeg, Int.reduceBEq, Int.reduceBNe, ↓reduceIte, reduceCtorEq]); refine ⟨_, rfl, _, rfl, Fin.pureC 2 ?_⟩; simp only [List.map_cons, List.map_nil, AV.low, AV.toPV, AV.toPVs, AV.toPVr, getO0, getOk, getS0, getSk, List.getElem?_cons_zero, List.getElem?_cons_succ, Nat.not_lt_zero, if_false, if_true, List.length_cons, List.length_nil, Nat.zero_le, and_self, and_true, true_and, List.drop_zero, List.take_succ_cons, List.take_zero, List.take_nil, Option.map_some, Nat.zero_add, aOne, aev, Option.getD_some, Nat.lt_irrefl, show ∀ n k : Nat, (n + k < n) = False from fun n k => by simp, show ∀ n k : Nat, (n ≤ n + k) = True from fun n k => by simp]; all_goals (first | exact l1.o | exact l2.o | exact l3.o)); all_goals (first | exact Fl.t | exact Fl.any _)) : p := (h ⟨k.1⟩ ⟨(k.2).1⟩ ⟨k.2.2⟩).1
theorem panX {p q1 : Prop} (k : q1) (h : Bx q1 → p ∧ Fl q1 := by
    intro l1; refine ⟨?_, ?_⟩; (· (first | refine ⟨_, rfl, Fin.pure0 0 ?_⟩ | refine ⟨_, rfl, Fin.pure 1 ?_⟩); simp only [AV.low]; (try rfl); all_goals (first | exact l1.o)); all_goals (first | exact Fl.t | exact Fl.any _)) : p := (h ⟨k⟩).1
theorem fgtX {p q1 : Prop} (k : q1) (h : Bx q1 → p ∧ Fl q1 := by
    intro l1; refine ⟨?_, ?_⟩; (· refine Wk.fgt ?_; simp only [Fgt, List.length_nil, List.set_cons_zero, List.set_cons_succ, Int.natCast_zero, Int.cast_ofNat_Int, Int.ofNat_eq_natCast, true_or, or_true, true_and, and_true, and_self, eq_self]; all_goals (first | exact l1.o)); all_goals (first | exact Fl.t | exact Fl.any _)) : p := (h ⟨k⟩).1
theorem fgX {p q1 : Prop} (k : q1) (h : Bx q1 → p ∧ Fl q1 := by
    intro l1; refine ⟨?_, ?_⟩; (· simp only [Fgt, List.length_nil, List.set_cons_zero, List.set_cons_succ, Int.natCast_zero, Int.cast_ofNat_Int, Int.ofNat_eq_natCast, true_or, or_true, true_and, and_true, and_self, eq_self]; all_goals (first | exact l1.o)); all_goals (first | exact Fl.t | exact Fl.any _)) : p := (h ⟨k⟩).1
theorem dropX {p q1 : Prop} (k : q1) (h : Bx q1 → p ∧ Fl q1 := by
    intro l1; refine ⟨?_, ?_⟩; (· (first | (refine Wk.drop0 1 ?_; simp only [List.map_cons, List.map_nil, AV.low, List.length_append, List.length_cons, List.length_nil, Nat.lt_irrefl, if_false, Fgt, Int.natCast_zero, Int.cast_ofNat_Int, Int.ofNat_eq_natCast, true_or, or_true, true_and, and_true, and_self, eq_self]) | (refine Wk.fgt ?_; simp only [Fgt, List.length_nil, List.set_cons_zero, List.set_cons_succ, Int.natCast_zero, Int.cast_ofNat_Int, Int.ofNat_eq_natCast, true_or, or_true, true_and, and_true, and_self, eq_self])); all_goals (first | exact l1.o)); all_goals (first | exact Fl.t | exact Fl.any _)) : p := (h ⟨k⟩).1
end Go.Proofs.Ytiifbdkedainnaa.AL

namespace Go.Proofs.Ytiifbdkedainnaa.Y
open Go.Proofs.Ytiifbdkedainnaa.AL Go.Proofs
instance : GTab := ⟨fun _ => none⟩
theorem ty1 : ATy.of Try.prog 1 = some ⟨1, 8, [.nilFunc], .other⟩ := by kernel_rfl
theorem ty2 : ATy.of Try.prog 2 = some ⟨1, 8, [.int .i64 0], .int⟩ := by kernel_rfl
theorem ty3 : ATy.of Try.prog 3 = some ⟨1, 8, [.int .i64 0], .int⟩ := by kernel_rfl
theorem ty4 : ATy.of Try.prog 4 = some ⟨1, 1, [.bool false], .bool⟩ := by kernel_rfl
theorem ty5 : ATy.of Try.prog 5 = some ⟨1, 1, [.int .u8 0], .int⟩ := by kernel_rfl
theorem ty6 : ATy.of Try.prog 6 = some ⟨1, 1, [.int .u8 0], .int⟩ := by kernel_rfl
theorem ty7 : ATy.of Try.prog 7 = some ⟨4, 24, [.int .i64 0, .int .i64 0, .bool false, .int .u8 0], .struct [(0, 2), (1, 3), (2, 4), (3, 6)]⟩ := by kernel_rfl
theorem ty8 : ATy.of Try.prog 8 = some ⟨4, 24, [.int .i64 0, .int .i64 0, .bool false, .int .u8 0], .struct [(0, 2), (1, 3), (2, 4), (3, 6)]⟩ := by kernel_rfl
theorem ty9 : ATy.of Try.prog 9 = some ⟨1, 16, [.string ⟨#[]⟩], .str⟩ := by kernel_rfl
theorem ty10 : ATy.of Try.prog 10 = some ⟨1, 16, [.string ⟨#[]⟩], .str⟩ := by kernel_rfl
theorem ty11 : ATy.of Try.prog 11 = some ⟨1, 16, [.string ⟨#[]⟩], .str⟩ := by kernel_rfl
theorem ty12 : ATy.of Try.prog 12 = some ⟨1, 8, [.int .u64 0], .int⟩ := by kernel_rfl
theorem ty13 : ATy.of Try.prog 13 = some ⟨2, 24, [.string ⟨#[]⟩, .int .u64 0], .struct [(0, 9), (1, 12)]⟩ := by kernel_rfl
theorem ty14 : ATy.of Try.prog 14 = some ⟨2, 24, [.string ⟨#[]⟩, .int .u64 0], .struct [(0, 9), (1, 12)]⟩ := by kernel_rfl
theorem ty15 : ATy.of Try.prog 15 = some ⟨1, 8, [.pointer none], .other⟩ := by kernel_rfl
theorem ty16 : ATy.of Try.prog 16 = some ⟨1, 8, [.pointer none], .other⟩ := by kernel_rfl
theorem ty17 : ATy.of Try.prog 17 = some ⟨1, 8, [.pointer none], .other⟩ := by kernel_rfl
theorem ty18 : ATy.of Try.prog 18 = some ⟨1, 8, [.pointer none], .struct [(0, 17)]⟩ := by kernel_rfl
theorem ty19 : ATy.of Try.prog 19 = some ⟨1, 8, [.pointer none], .struct [(0, 17)]⟩ := by kernel_rfl
theorem ty20 : ATy.of Try.prog 20 = some ⟨1, 16, [.nilIface], .iface⟩ := by kernel_rfl
theorem ty21 : ATy.of Try.prog 21 = some ⟨1, 4, [.int .i32 0], .int⟩ := by kernel_rfl
theorem ty22 : ATy.of Try.prog 22 = some ⟨1, 24, [.slice none 0 0], .slice 55⟩ := by kernel_rfl
theorem ty23 : ATy.of Try.prog 23 = some ⟨1, 24, [.slice none 0 0], .slice 73⟩ := by kernel_rfl
theorem ty24 : ATy.of Try.prog 24 = some ⟨5, 120, [.slice none 0 0, .slice none 0 0, .slice none 0 0, .slice none 0 0, .slice none 0 0], .array 5 23⟩ := by kernel_rfl
theorem ty25 : ATy.of Try.prog 25 = some ⟨9, 176, [.string ⟨#[]⟩, .slice none 0 0, .slice none 0 0, .slice none 0 0, .slice none 0 0, .slice none 0 0, .slice none 0 0, .int .i64 0, .int .i64 0], .struct [(0, 9), (1, 22), (2, 24), (7, 3), (8, 3)]⟩ := by kernel_rfl
theorem ty26 : ATy.of Try.prog 26 = some ⟨9, 176, [.string ⟨#[]⟩, .slice none 0 0, .slice none 0 0, .slice none 0 0, .slice none 0 0, .slice none 0 0, .slice none 0 0, .int .i64 0, .int .i64 0], .struct [(0, 9), (1, 22), (2, 24), (7, 3), (8, 3)]⟩ := by kernel_rfl
theorem ty27 : ATy.of Try.prog 27 = some ⟨1, 24, [.slice none 0 0], .slice 41⟩ := by kernel_rfl
theorem ty28 : ATy.of Try.prog 28 = some ⟨5, 120, [.slice none 0 0, .slice none 0 0, .slice none 0 0, .slice none 0 0, .slice none 0 0], .array 5 27⟩ := by kernel_rfl
theorem ty29 : ATy.of Try.prog 29 = some ⟨5, 120, [.slice none 0 0, .slice none 0 0, .slice none 0 0, .slice none 0 0, .slice none 0 0], .struct [(0, 28)]⟩ := by kernel_rfl
theorem ty30 : ATy.of Try.prog 30 = some ⟨5, 120, [.slice none 0 0, .slice none 0 0, .slice none 0 0, .slice none 0 0, .slice none 0 0], .struct [(0, 28)]⟩ := by kernel_rfl
theorem ty31 : ATy.of Try.prog 31 = some ⟨1, 8, [.nilFunc], .other⟩ := by kernel_rfl
theorem ty32 : ATy.of Try.prog 32 = some ⟨1, 8, [.nilFunc], .other⟩ := by kernel_rfl
theorem ty33 : ATy.of Try.prog 33 = some ⟨1, 8, [.nilFunc], .other⟩ := by kernel_rfl
theorem ty34 : ATy.of Try.prog 34 = some ⟨1, 8, [.int .i64 0], .int⟩ := by kernel_rfl
theorem ty36 : ATy.of Try.prog 36 = some ⟨1, 8, [.nilFunc], .other⟩ := by kernel_rfl
theorem ty37 : ATy.of Try.prog 37 = some ⟨1, 8, [.nilFunc], .other⟩ := by kernel_rfl
theorem ty38 : ATy.of Try.prog 38 = some ⟨1, 8, [.nilFunc], .other⟩ := by kernel_rfl
theorem ty39 : ATy.of Try.prog 39 = some ⟨1, 24, [.slice none 0 0], .slice 4⟩ := by kernel_rfl
theorem ty40 : ATy.of Try.prog 40 = some ⟨3, 24, [.int .i64 0, .int .i64 0, .int .i64 0], .struct [(0, 3), (1, 3), (2, 3)]⟩ := by kernel_rfl
theorem ty41 : ATy.of Try.prog 41 = some ⟨3, 24, [.int .i64 0, .int .i64 0, .int .i64 0], .struct [(0, 3), (1, 3), (2, 3)]⟩ := by kernel_rfl
theorem ty43 : ATy.of Try.prog 43 = some ⟨1, 8, [.nilFunc], .other⟩ := by kernel_rfl
theorem ty44 : ATy.of Try.prog 44 = some ⟨1, 8, [.nilFunc], .other⟩ := by kernel_rfl
theorem ty45 : ATy.of Try.prog 45 = some ⟨1, 8, [.nilFunc], .other⟩ := by kernel_rfl
theorem ty46 : ATy.of Try.prog 46 = some ⟨1, 8, [.nilFunc], .other⟩ := by kernel_rfl
theorem ty47 : ATy.of Try.prog 47 = some ⟨1, 8, [.nilFunc], .other⟩ := by kernel_rfl
theorem ty48 : ATy.of Try.prog 48 = some ⟨1, 8, [.nilFunc], .other⟩ := by kernel_rfl
theorem ty49 : ATy.of Try.prog 49 = some ⟨1, 8, [.nilFunc], .other⟩ := by kernel_rfl
theorem ty50 : ATy.of Try.prog 50 = some ⟨1, 2, [.int .u16 0], .int⟩ := by kernel_rfl
theorem ty51 : ATy.of Try.prog 51 = some ⟨1, 8, [.pointer none], .other⟩ := by kernel_rfl
theorem ty52 : ATy.of Try.prog 52 = some ⟨1, 8, [.nilFunc], .other⟩ := by kernel_rfl
theorem ty53 : ATy.of Try.prog 53 = some ⟨1, 8, [.nilFunc], .other⟩ := by kernel_rfl
theorem ty54 : ATy.of Try.prog 54 = some ⟨5, 48, [.string ⟨#[]⟩, .int .i64 0, .int .i64 0, .int .i64 0, .int .i64 0], .struct [(0, 9), (1, 3), (2, 3), (3, 3), (4, 3)]⟩ := by kernel_rfl
theorem ty55 : ATy.of Try.prog 55 = some ⟨5, 48, [.string ⟨#[]⟩, .int .i64 0, .int .i64 0, .int .i64 0, .int .i64 0], .struct [(0, 9), (1, 3), (2, 3), (3, 3), (4, 3)]⟩ := by kernel_rfl
theorem ty56 : ATy.of Try.prog 56 = some ⟨1, 8, [.nilFunc], .other⟩ := by kernel_rfl
theorem ty57 : ATy.of Try.prog 57 = some ⟨1, 24, [.slice none 0 0], .struct [(0, 27)]⟩ := by kernel_rfl
theorem ty58 : ATy.of Try.prog 58 = some ⟨1, 24, [.slice none 0 0], .struct [(0, 27)]⟩ := by kernel_rfl
theorem ty59 : ATy.of Try.prog 59 = some ⟨1, 8, [.nilFunc], .other⟩ := by kernel_rfl
theorem ty60 : ATy.of Try.prog 60 = some ⟨1, 8, [.nilFunc], .other⟩ := by kernel_rfl
theorem ty61 : ATy.of Try.prog 61 = some ⟨1, 8, [.nilFunc], .other⟩ := by kernel_rfl
theorem ty62 : ATy.of Try.prog 62 = some ⟨1, 8, [.nilFunc], .other⟩ := by kernel_rfl
theorem ty63 : ATy.of Try.prog 63 = some ⟨1, 8, [.nilFunc], .other⟩ := by kernel_rfl
theorem ty64 : ATy.of Try.prog 64 = some ⟨1, 8, [.nilFunc], .other⟩ := by kernel_rfl
theorem ty65 : ATy.of Try.prog 65 = some ⟨1, 8, [.nilFunc], .other⟩ := by kernel_rfl
theorem ty67 : ATy.of Try.prog 67 = some ⟨1, 8, [.nilFunc], .other⟩ := by kernel_rfl
theorem ty68 : ATy.of Try.prog 68 = some ⟨1, 8, [.nilFunc], .other⟩ := by kernel_rfl
theorem ty69 : ATy.of Try.prog 69 = some ⟨1, 24, [.slice none 0 0], .slice 71⟩ := by kernel_rfl
theorem ty70 : ATy.of Try.prog 70 = some ⟨4, 48, [.int .i64 0, .int .i64 0, .int .i64 0, .slice none 0 0], .struct [(0, 3), (1, 3), (2, 3), (3, 69)]⟩ := by kernel_rfl
theorem ty71 : ATy.of Try.prog 71 = some ⟨4, 48, [.int .i64 0, .int .i64 0, .int .i64 0, .slice none 0 0], .struct [(0, 3), (1, 3), (2, 3), (3, 69)]⟩ := by kernel_rfl
theorem ty72 : ATy.of Try.prog 72 = some ⟨13, 168, [.int .i64 0, .int .i64 0, .int .i64 0, .int .i64 0, .int .i64 0, .int .i64 0, .slice none 0 0, .int .i64 0, .int .i64 0, .int .i64 0, .slice none 0 0, .slice none 0 0, .slice none 0 0], .struct [(0, 3), (1, 3), (2, 3), (3, 71), (7, 71), (11, 23), (12, 23)]⟩ := by kernel_rfl
theorem ty73 : ATy.of Try.prog 73 = some ⟨13, 168, [.int .i64 0, .int .i64 0, .int .i64 0, .int .i64 0, .int .i64 0, .int .i64 0, .slice none 0 0, .int .i64 0, .int .i64 0, .int .i64 0, .slice none 0 0, .slice none 0 0, .slice none 0 0], .struct [(0, 3), (1, 3), (2, 3), (3, 71), (7, 71), (11, 23), (12, 23)]⟩ := by kernel_rfl
theorem ty74 : ATy.of Try.prog 74 = some ⟨1, 8, [.nilFunc], .other⟩ := by kernel_rfl
theorem ty75 : ATy.of Try.prog 75 = some ⟨1, 8, [.nilFunc], .other⟩ := by kernel_rfl
theorem ty76 : ATy.of Try.prog 76 = some ⟨1, 8, [.nilFunc], .other⟩ := by kernel_rfl
theorem ty77 : ATy.of Try.prog 77 = some ⟨1, 8, [.nilFunc], .other⟩ := by kernel_rfl
theorem ty78 : ATy.of Try.prog 78 = some ⟨1, 8, [.map none], .map 9 4⟩ := by kernel_rfl
theorem ty79 : ATy.of Try.prog 79 = some ⟨1, 8, [.pointer none], .other⟩ := by kernel_rfl
theorem ty80 : ATy.of Try.prog 80 = some ⟨1, 8, [.nilFunc], .other⟩ := by kernel_rfl
theorem ty81 : ATy.of Try.prog 81 = some ⟨1, 8, [.nilFunc], .other⟩ := by kernel_rfl
theorem ty82 : ATy.of Try.prog 82 = some ⟨1, 8, [.nilFunc], .other⟩ := by kernel_rfl
theorem ty83 : ATy.of Try.prog 83 = some ⟨1, 8, [.nilFunc], .other⟩ := by kernel_rfl
theorem ty84 : ATy.of Try.prog 84 = some ⟨2, 16, [.int .i64 0, .int .i64 0], .struct [(0, 3), (1, 3)]⟩ := by kernel_rfl
theorem ty85 : ATy.of Try.prog 85 = some ⟨2, 16, [.int .i64 0, .int .i64 0], .struct [(0, 3), (1, 3)]⟩ := by kernel_rfl
theorem ty86 : ATy.of Try.prog 86 = some ⟨28, 224, List.replicate 28 (.int .i64 0), .array 14 85⟩ := by kernel_rfl
theorem ty87 : ATy.of Try.prog 87 = some ⟨1, 8, [.nilFunc], .other⟩ := by kernel_rfl
theorem ty88 : ATy.of Try.prog 88 = some ⟨1, 24, [.slice none 0 0], .slice 3⟩ := by kernel_rfl
theorem ty89 : ATy.of Try.prog 89 = some ⟨1, 8, [.nilFunc], .other⟩ := by kernel_rfl
theorem ty90 : ATy.of Try.prog 90 = some ⟨1, 8, [.nilFunc], .other⟩ := by kernel_rfl
theorem ty91 : ATy.of Try.prog 91 = some ⟨1, 8, [.nilFunc], .other⟩ := by kernel_rfl
theorem ty92 : ATy.of Try.prog 92 = some ⟨1, 24, [.slice none 0 0], .slice 9⟩ := by kernel_rfl
theorem ty93 : ATy.of Try.prog 93 = some ⟨1, 8, [.nilFunc], .other⟩ := by kernel_rfl
theorem ty94 : ATy.of Try.prog 94 = some ⟨1, 8, [.nilFunc], .other⟩ := by kernel_rfl
theorem ty95 : ATy.of Try.prog 95 = some ⟨1, 8, [.nilFunc], .other⟩ := by kernel_rfl
theorem ty96 : ATy.of Try.prog 96 = some ⟨1, 24, [.slice none 0 0], .slice 98⟩ := by kernel_rfl
theorem ty97 : ATy.of Try.prog 97 = some ⟨6, 72, [.int .i64 0, .string ⟨#[]⟩, .int .i64 0, .int .i64 0, .int .i64 0, .slice none 0 0], .struct [(0, 3), (1, 9), (2, 3), (3, 3), (4, 3), (5, 96)]⟩ := by kernel_rfl
theorem ty98 : ATy.of Try.prog 98 = some ⟨6, 72, [.int .i64 0, .string ⟨#[]⟩, .int .i64 0, .int .i64 0, .int .i64 0, .slice none 0 0], .struct [(0, 3), (1, 9), (2, 3), (3, 3), (4, 3), (5, 96)]⟩ := by kernel_rfl
theorem ty99 : ATy.of Try.prog 99 = some ⟨1, 8, [.nilFunc], .other⟩ := by kernel_rfl
theorem ty100 : ATy.of Try.prog 100 = some ⟨1, 8, [.pointer none], .other⟩ := by kernel_rfl
theorem ty102 : ATy.of Try.prog 102 = some ⟨1, 8, [.nilFunc], .other⟩ := by kernel_rfl
theorem ty103 : ATy.of Try.prog 103 = some ⟨1, 8, [.nilFunc], .other⟩ := by kernel_rfl
theorem ty104 : ATy.of Try.prog 104 = some ⟨11, 88, [.int .i64 0, .int .i64 0, .int .i64 0, .int .i64 0, .int .i64 0, .int .i64 0, .int .i64 0, .int .i64 0, .int .i64 0, .int .i64 0, .int .i64 0], .array 11 3⟩ := by kernel_rfl
theorem ty105 : ATy.of Try.prog 105 = some ⟨1, 8, [.nilFunc], .other⟩ := by kernel_rfl
theorem ty106 : ATy.of Try.prog 106 = some ⟨3, 24, [.int .i64 0, .int .i64 0, .int .i64 0], .struct [(0, 3), (1, 3), (2, 3)]⟩ := by kernel_rfl
theorem ty107 : ATy.of Try.prog 107 = some ⟨3, 24, [.int .i64 0, .int .i64 0, .int .i64 0], .struct [(0, 3), (1, 3), (2, 3)]⟩ := by kernel_rfl
theorem ty109 : ATy.of Try.prog 109 = some ⟨1, 8, [.nilFunc], .other⟩ := by kernel_rfl
theorem ty110 : ATy.of Try.prog 110 = some ⟨1, 8, [.nilFunc], .other⟩ := by kernel_rfl
theorem ty111 : ATy.of Try.prog 111 = some ⟨1, 8, [.nilFunc], .other⟩ := by kernel_rfl
theorem ty112 : ATy.of Try.prog 112 = some ⟨1, 8, [.nilFunc], .other⟩ := by kernel_rfl
theorem ty113 : ATy.of Try.prog 113 = some ⟨1, 8, [.nilFunc], .other⟩ := by kernel_rfl
theorem ty114 : ATy.of Try.prog 114 = some ⟨1, 8, [.nilFunc], .other⟩ := by kernel_rfl
theorem ty115 : ATy.of Try.prog 115 = some ⟨1, 24, [.slice none 0 0], .slice 119⟩ := by kernel_rfl
theorem ty116 : ATy.of Try.prog 116 = some ⟨1, 24, [.slice none 0 0], .struct [(0, 115)]⟩ := by kernel_rfl
theorem ty117 : ATy.of Try.prog 117 = some ⟨1, 24, [.slice none 0 0], .struct [(0, 115)]⟩ := by kernel_rfl
theorem ty118 : ATy.of Try.prog 118 = some ⟨3, 24, [.int .i64 0, .int .i64 0, .int .i64 0], .array 3 3⟩ := by kernel_rfl
theorem ty119 : ATy.of Try.prog 119 = some ⟨3, 24, [.int .i64 0, .int .i64 0, .int .i64 0], .array 3 3⟩ := by kernel_rfl
theorem ty121 : ATy.of Try.prog 121 = some ⟨1, 8, [.nilFunc], .other⟩ := by kernel_rfl
theorem ty122 : ATy.of Try.prog 122 = some ⟨1, 8, [.nilFunc], .other⟩ := by kernel_rfl
theorem ty123 : ATy.of Try.prog 123 = some ⟨1, 8, [.pointer none], .other⟩ := by kernel_rfl
theorem ty124 : ATy.of Try.prog 124 = some ⟨1, 8, [.nilFunc], .other⟩ := by kernel_rfl
theorem ty125 : ATy.of Try.prog 125 = some ⟨1, 8, [.nilFunc], .other⟩ := by kernel_rfl
theorem ty126 : ATy.of Try.prog 126 = some ⟨1, 8, [.nilFunc], .other⟩ := by kernel_rfl
theorem ty127 : ATy.of Try.prog 127 = some ⟨1, 8, [.nilFunc], .other⟩ := by kernel_rfl
theorem ty128 : ATy.of Try.prog 128 = some ⟨1, 8, [.nilFunc], .other⟩ := by kernel_rfl
theorem ty129 : ATy.of Try.prog 129 = some ⟨15, 120, [.int .i64 0, .int .i64 0, .int .i64 0, .int .i64 0, .int .i64 0, .int .i64 0, .int .i64 0, .int .i64 0, .int .i64 0, .int .i64 0, .int .i64 0, .int .i64 0, .int .i64 0, .int .i64 0, .int .i64 0], .array 5 119⟩ := by kernel_rfl
theorem ty130 : ATy.of Try.prog 130 = some ⟨1, 8, [.nilFunc], .other⟩ := by kernel_rfl
theorem ty131 : ATy.of Try.prog 131 = some ⟨1, 8, [.nilFunc], .other⟩ := by kernel_rfl
theorem ty132 : ATy.of Try.prog 132 = some ⟨1, 8, [.nilFunc], .other⟩ := by kernel_rfl
theorem ty133 : ATy.of Try.prog 133 = some ⟨1, 8, [.nilFunc], .other⟩ := by kernel_rfl
theorem ty134 : ATy.of Try.prog 134 = some ⟨1, 8, [.nilFunc], .other⟩ := by kernel_rfl
theorem ty135 : ATy.of Try.prog 135 = some ⟨1, 24, [.slice none 0 0], .slice 5⟩ := by kernel_rfl
theorem ty136 : ATy.of Try.prog 136 = some ⟨7, 56, [.int .i64 0, .int .i64 0, .int .i64 0, .int .i64 0, .int .i64 0, .int .i64 0, .int .i64 0], .array 7 3⟩ := by kernel_rfl
theorem ty137 : ATy.of Try.prog 137 = some ⟨1, 8, [.nilFunc], .other⟩ := by kernel_rfl
theorem ty138 : ATy.of Try.prog 138 = some ⟨1, 8, [.nilFunc], .other⟩ := by kernel_rfl
theorem ty139 : ATy.of Try.prog 139 = some ⟨6, 48, [.int .i64 0, .int .i64 0, .int .i64 0, .int .i64 0, .int .i64 0, .int .i64 0], .array 2 107⟩ := by kernel_rfl
theorem ty140 : ATy.of Try.prog 140 = some ⟨1, 8, [.nilFunc], .other⟩ := by kernel_rfl
theorem ty142 : ATy.of Try.prog 142 = some ⟨1, 8, [.nilFunc], .other⟩ := by kernel_rfl
theorem ty143 : ATy.of Try.prog 143 = some ⟨1, 8, [.nilFunc], .other⟩ := by kernel_rfl
theorem ty144 : ATy.of Try.prog 144 = some ⟨4, 32, [.int .i64 0, .int .i64 0, .int .i64 0, .int .i64 0], .array 4 3⟩ := by kernel_rfl
theorem ty145 : ATy.of Try.prog 145 = some ⟨1, 8, [.nilFunc], .other⟩ := by kernel_rfl
theorem ty146 : ATy.of Try.prog 146 = some ⟨4, 40, [.pointer none, .pointer none, .pointer none, .string ⟨#[]⟩], .struct [(0, 17), (1, 17), (2, 17), (3, 9)]⟩ := by kernel_rfl
theorem ty147 : ATy.of Try.prog 147 = some ⟨4, 40, [.pointer none, .pointer none, .pointer none, .string ⟨#[]⟩], .struct [(0, 17), (1, 17), (2, 17), (3, 9)]⟩ := by kernel_rfl
theorem ty148 : ATy.of Try.prog 148 = some ⟨0, 0, [], .array 0 16⟩ := by kernel_rfl
theorem ty149 : ATy.of Try.prog 149 = some ⟨0, 0, [], .struct [(0, 148)]⟩ := by kernel_rfl
theorem ty150 : ATy.of Try.prog 150 = some ⟨0, 0, [], .struct [(0, 148)]⟩ := by kernel_rfl
theorem ty151 : ATy.of Try.prog 151 = some ⟨1, 8, [.nilFunc], .other⟩ := by kernel_rfl
theorem ty152 : ATy.of Try.prog 152 = some ⟨1, 4, [.int .u32 0], .int⟩ := by kernel_rfl
theorem ty153 : ATy.of Try.prog 153 = some ⟨1, 1, [.int .u8 0], .int⟩ := by kernel_rfl
theorem ty154 : ATy.of Try.prog 154 = some ⟨1, 1, [.int .u8 0], .int⟩ := by kernel_rfl
theorem ty155 : ATy.of Try.prog 155 = some ⟨1, 8, [.nilFunc], .other⟩ := by kernel_rfl
theorem ty156 : ATy.of Try.prog 156 = some ⟨1, 8, [.pointer none], .other⟩ := by kernel_rfl
theorem ty157 : ATy.of Try.prog 157 = some ⟨1, 4, [.int .i32 0], .int⟩ := by kernel_rfl
theorem ty158 : ATy.of Try.prog 158 = some ⟨1, 4, [.int .i32 0], .int⟩ := by kernel_rfl
theorem ty159 : ATy.of Try.prog 159 = some ⟨11, 48, [.int .u64 0, .int .u64 0, .int .u32 0, .int .u8 0, .int .u8 0, .int .u8 0, .int .u8 0, .nilFunc, .pointer none, .int .i32 0, .int .i32 0], .struct [(0, 12), (1, 12), (2, 152), (3, 153), (4, 5), (5, 5), (6, 154), (7, 155), (8, 156), (9, 157), (10, 158)]⟩ := by kernel_rfl
theorem ty160 : ATy.of Try.prog 160 = some ⟨11, 48, [.int .u64 0, .int .u64 0, .int .u32 0, .int .u8 0, .int .u8 0, .int .u8 0, .int .u8 0, .nilFunc, .pointer none, .int .i32 0, .int .i32 0], .struct [(0, 12), (1, 12), (2, 152), (3, 153), (4, 5), (5, 5), (6, 154), (7, 155), (8, 156), (9, 157), (10, 158)]⟩ := by kernel_rfl
theorem ty161 : ATy.of Try.prog 161 = some ⟨1, 8, [.nilFunc], .other⟩ := by kernel_rfl
theorem ty162 : ATy.of Try.prog 162 = some ⟨1, 8, [.pointer none], .other⟩ := by kernel_rfl
attribute [go_sem] ty1 ty2 ty3 ty4 ty5 ty6 ty7 ty8 ty9 ty10 ty11 ty12 ty13 ty14 ty15 ty16 ty17 ty18 ty19 ty20 ty21 ty22 ty23 ty24 ty25 ty26 ty27 ty28 ty29 ty30 ty31 ty32 ty33 ty34 ty36 ty37 ty38 ty39 ty40 ty41 ty43 ty44 ty45 ty46 ty47 ty48 ty49 ty50 ty51 ty52 ty53 ty54 ty55 ty56 ty57 ty58 ty59 ty60 ty61 ty62 ty63 ty64 ty65 ty67 ty68 ty69 ty70 ty71 ty72 ty73 ty74 ty75 ty76 ty77 ty78 ty79 ty80 ty81 ty82 ty83 ty84 ty85 ty86 ty87 ty88 ty89 ty90 ty91 ty92 ty93 ty94 ty95 ty96 ty97 ty98 ty99 ty100 ty102 ty103 ty104 ty105 ty106 ty107 ty109 ty110 ty111 ty112 ty113 ty114 ty115 ty116 ty117 ty118 ty119 ty121 ty122 ty123 ty124 ty125 ty126 ty127 ty128 ty129 ty130 ty131 ty132 ty133 ty134 ty135 ty136 ty137 ty138 ty139 ty140 ty142 ty143 ty144 ty145 ty146 ty147 ty148 ty149 ty150 ty151 ty152 ty153 ty154 ty155 ty156 ty157 ty158 ty159 ty160 ty161 ty162 
attribute [go_sem] Try.underlying1 Try.underlying2 Try.underlying3 Try.underlying4 Try.underlying5 Try.underlying6 Try.underlying7 Try.underlying8 Try.underlying9 Try.underlying10 Try.underlying11 Try.underlying12 Try.underlying13 Try.underlying14 Try.underlying15 Try.underlying16 Try.underlying17 Try.underlying18 Try.underlying19 Try.underlying20 Try.underlying21 Try.underlying22 Try.underlying23 Try.underlying24 Try.underlying25 Try.underlying26 Try.underlying27 Try.underlying28 Try.underlying29 Try.underlying30 Try.underlying31 Try.underlying32 Try.underlying33 Try.underlying34 Try.underlying36 Try.underlying37 Try.underlying38 Try.underlying39 Try.underlying40 Try.underlying41 Try.underlying43 Try.underlying44 Try.underlying45 Try.underlying46 Try.underlying47 Try.underlying48 Try.underlying49 Try.underlying50 Try.underlying51 Try.underlying52 Try.underlying53 Try.underlying54 Try.underlying55 Try.underlying56 Try.underlying57 Try.underlying58 Try.underlying59 Try.underlying60 Try.underlying61 Try.underlying62 Try.underlying63 Try.underlying64 Try.underlying65 Try.underlying67 Try.underlying68 Try.underlying69 Try.underlying70 Try.underlying71 Try.underlying72 Try.underlying73 Try.underlying74 Try.underlying75 Try.underlying76 Try.underlying77 Try.underlying78 Try.underlying79 Try.underlying80 Try.underlying81 Try.underlying82 Try.underlying83 Try.underlying84 Try.underlying85 Try.underlying86 Try.underlying87 Try.underlying88 Try.underlying89 Try.underlying90 Try.underlying91 Try.underlying92 Try.underlying93 Try.underlying94 Try.underlying95 Try.underlying96 Try.underlying97 Try.underlying98 Try.underlying99 Try.underlying100 Try.underlying102 Try.underlying103 Try.underlying104 Try.underlying105 Try.underlying106 Try.underlying107 Try.underlying109 Try.underlying110 Try.underlying111 Try.underlying112 Try.underlying113 Try.underlying114 Try.underlying115 Try.underlying116 Try.underlying117 Try.underlying118 Try.underlying119 Try.underlying121 Try.underlying122 Try.underlying123 Try.underlying124 Try.underlying125 Try.underlying126 Try.underlying127 Try.underlying128 Try.underlying129 Try.underlying130 Try.underlying131 Try.underlying132 Try.underlying133 Try.underlying134 Try.underlying135 Try.underlying136 Try.underlying137 Try.underlying138 Try.underlying139 Try.underlying140 Try.underlying142 Try.underlying143 Try.underlying144 Try.underlying145 Try.underlying146 Try.underlying147 Try.underlying148 Try.underlying149 Try.underlying150 Try.underlying151 Try.underlying152 Try.underlying153 Try.underlying154 Try.underlying155 Try.underlying156 Try.underlying157 Try.underlying158 Try.underlying159 Try.underlying160 Try.underlying161 Try.underlying162 
end Go.Proofs.Ytiifbdkedainnaa.Y

/- The language: expressions, statements, variables, programs, and how they lie in memory. -/
set_option linter.unusedVariables false
set_option linter.unusedSimpArgs false
namespace Go.Proofs.Ytiifbdkedainnaa.AL

abbrev PV.i (n : Int) : PV := .sc (.int .i64 n)
abbrev AV.i (n : Int) : AV := .pv (.sc (.int .i64 n))
abbrev AV.b (t : Bool) : AV := .pv (.sc (.bool t))

inductive Ex where
  | mk (op n unit : Int) (kids : List Ex)
def Ex.op : Ex → Int | .mk a _ _ _ => a
def Ex.n : Ex → Int | .mk _ a _ _ => a
def Ex.unit : Ex → Int | .mk _ _ a _ => a
def Ex.kids : Ex → List Ex | .mk _ _ _ a => a

mutual
def encE : Ex → List PV
  | .mk op n u kids => [.i op, .i n, .i u, .rs 4 (encEs kids)]
def encEs : List Ex → List (List PV)
  | [] => []
  | e :: es => encE e :: encEs es
end
theorem encEs_map : ∀ l : List Ex, encEs l = l.map encE
  | [] => by simp [encEs]
  | e :: es => by simp [encEs, encEs_map es]
theorem encE_eq (e : Ex) : encE e = [.i e.op, .i e.n, .i e.unit, .rs 4 (e.kids.map encE)] := by
  cases e; simp [encE, encEs_map, Ex.op, Ex.n, Ex.unit, Ex.kids]
abbrev cE (e : Ex) : List PV := [.i e.op, .i e.n, .i e.unit, .rs 4 (e.kids.map encE)]
theorem encE_len (e : Ex) : (encE e).length = 4 := by rw [encE_eq]; rfl

inductive St where
  | mk (kind var rel : Int) (a b : Ex) (thn els : List St)
def St.kind : St → Int | .mk x _ _ _ _ _ _ => x
def St.var : St → Int | .mk _ x _ _ _ _ _ => x
def St.rel : St → Int | .mk _ _ x _ _ _ _ => x
def St.a : St → Ex | .mk _ _ _ x _ _ _ => x
def St.b : St → Ex | .mk _ _ _ _ x _ _ => x
def St.thn : St → List St | .mk _ _ _ _ _ x _ => x
def St.els : St → List St | .mk _ _ _ _ _ _ x => x

mutual
def encS : St → List PV
  | .mk k v r a b t e => [.i k, .i v, .i r, .i a.op, .i a.n, .i a.unit, .rs 4 (a.kids.map encE), .i b.op, .i b.n, .i b.unit, .rs 4 (b.kids.map encE), .rs 13 (encSs t), .rs 13 (encSs e)]
def encSs : List St → List (List PV)
  | [] => []
  | e :: es => encS e :: encSs es
end
theorem encSs_map : ∀ l : List St, encSs l = l.map encS
  | [] => by simp [encSs]
  | e :: es => by simp [encSs, encSs_map es]
theorem encS_eq (s : St) : encS s = [.i s.kind, .i s.var, .i s.rel, .i s.a.op, .i s.a.n, .i s.a.unit, .rs 4 (s.a.kids.map encE), .i s.b.op, .i s.b.n, .i s.b.unit, .rs 4 (s.b.kids.map encE), .rs 13 (s.thn.map encS), .rs 13 (s.els.map encS)] := by
  cases s; simp [encS, encSs_map, St.kind, St.var, St.rel, St.a, St.b, St.thn, St.els]
abbrev cS (s : St) : List PV := [.i s.kind, .i s.var, .i s.rel, .i s.a.op, .i s.a.n, .i s.a.unit, .rs 4 (s.a.kids.map encE), .i s.b.op, .i s.b.n, .i s.b.unit, .rs 4 (s.b.kids.map encE), .rs 13 (s.thn.map encS), .rs 13 (s.els.map encS)]
theorem encS_len (s : St) : (encS s).length = 13 := by rw [encS_eq]; rfl

structure Vr where
  name : ByteArray
  unit : Int
  low : Int
  high : Int
  init : Int
def encV (v : Vr) : List PV := [.sc (.string v.name), .i v.unit, .i v.low, .i v.high, .i v.init]

abbrev cV (v : Vr) : List PV := [.sc (.string v.name), .i v.unit, .i v.low, .i v.high, .i v.init]
theorem encV_eq (v : Vr) : encV v = cV v := rfl

structure Prg where
  name : ByteArray
  vars : List Vr
  on0 : List St
  on1 : List St
  on2 : List St
  on3 : List St
  on4 : List St
  window : Int
  pace : Int
def encP (p : Prg) : List PV := [.sc (.string p.name), .rs 5 (p.vars.map encV), .rs 13 (p.on0.map encS), .rs 13 (p.on1.map encS), .rs 13 (p.on2.map encS), .rs 13 (p.on3.map encS), .rs 13 (p.on4.map encS), .i p.window, .i p.pace]

abbrev cP (p : Prg) : List PV := [.sc (.string p.name), .rs 5 (p.vars.map encV), .rs 13 (p.on0.map encS), .rs 13 (p.on1.map encS), .rs 13 (p.on2.map encS), .rs 13 (p.on3.map encS), .rs 13 (p.on4.map encS), .i p.window, .i p.pace]
/-- An aggregate of pure values. -/
abbrev AV.ag (ps : List PV) : AV := .agg (ps.map AV.pv)
abbrev AV.rs (sz : Nat) (rows : List (List PV)) : AV := .pv (.rs sz rows)
theorem drop_cons {α : Type} {l : List α} {i : Nat} {x : α} {xs : List α} (h : l.drop i = x :: xs) : l[i]? = some x ∧ (i : Int) < (l.length : Int) ∧ l.drop (i + 1) = xs ∧ x ∈ l := by
  have h1 : l[i]? = some x := by
    have := congrArg (fun m => m[0]?) h
    simpa using this
  have h2 := (List.getElem?_eq_some_iff.1 h1).1
  refine ⟨h1, by omega, ?_, List.mem_of_getElem? h1⟩
  rw [← List.drop_drop, h]; rfl
theorem drop_nil {α : Type} {l : List α} {i : Nat} (h : l.drop i = []) : ¬ (i : Int) < (l.length : Int) := by
  have := List.drop_eq_nil_iff.1 h
  omega
end Go.Proofs.Ytiifbdkedainnaa.AL

/- Plain laws: sizes of expressions. -/
set_option linter.unusedVariables false
namespace Go.Proofs.Ytiifbdkedainnaa.AL

theorem Ex.ind {p : Ex → Prop} (h : ∀ e, (∀ k ∈ e.kids, p k) → p e) (e : Ex) : p e :=
  Ex.rec (motive_1 := p) (motive_2 := fun l => ∀ k ∈ l, p k) (fun op n u kids ih => h _ ih) (fun k hk => by cases hk)
    (fun e es h1 h2 k hk => by rcases List.mem_cons.1 hk with rfl | hk; exact h1; exact h2 k hk) e
theorem St.ind {p : St → Prop} (h : ∀ s, (∀ k ∈ s.thn, p k) → (∀ k ∈ s.els, p k) → p s) (s : St) : p s :=
  St.rec (motive_1 := p) (motive_2 := fun l => ∀ k ∈ l, p k) (fun _ _ _ _ _ t e ih1 ih2 => h _ ih1 ih2) (fun k hk => by cases hk)
    (fun e es h1 h2 k hk => by rcases List.mem_cons.1 hk with rfl | hk; exact h1; exact h2 k hk) s

mutual
def size : Ex → Int → Int
  | .mk _ _ _ kids, b => sizeL kids b 1
def sizeL : List Ex → Int → Int → Int
  | [], _, n => n
  | e :: es, b, n => if n ≤ b then sizeL es b (n + size e (b - n)) else n
end
theorem size_eq (e : Ex) (b : Int) : size e b = sizeL e.kids b 1 := by cases e; simp [size, Ex.kids]

theorem size_bd (e : Ex) : ∀ b, 1 ≤ size e b ∧ (size e b ≤ 1 ∨ size e b ≤ b + 1) := by
  induction e using Ex.ind with
  | h e ih =>
    intro b
    rw [size_eq]
    have key : ∀ l : List Ex, (∀ k ∈ l, ∀ b, 1 ≤ size k b ∧ (size k b ≤ 1 ∨ size k b ≤ b + 1)) → ∀ n, 1 ≤ n → n ≤ sizeL l b n ∧ (sizeL l b n ≤ n ∨ sizeL l b n ≤ b + 1) := by
      intro l
      induction l with
      | nil => intro _ n hn; simp [sizeL]
      | cons x xs ihl =>
        intro h n hn
        simp only [sizeL]
        split
        · have h1 := h x (by simp) (b - n)
          have h2 := ihl (fun k hk => h k (by simp [hk])) (n + size x (b - n)) (by omega)
          omega
        · omega
    have := key e.kids ih 1 (by omega)
    omega

-- All nodes of an expression.
mutual
def nodes : Ex → Nat
  | .mk _ _ _ kids => 1 + nodesL kids
def nodesL : List Ex → Nat
  | [] => 0
  | e :: es => nodes e + nodesL es
end
theorem nodes_eq (e : Ex) : nodes e = 1 + nodesL e.kids := by cases e; simp [nodes, Ex.kids]

theorem size_nodes (e : Ex) : ∀ b : Int, ((nodes e : Int) ≤ b ∨ (nodes e = 1) → size e b = nodes e) ∧ (b < nodes e → b < size e b ∨ b < 1) := by
  induction e using Ex.ind with
  | h e ih =>
    intro b
    rw [size_eq, nodes_eq]
    have key : ∀ l : List Ex, (∀ k ∈ l, ∀ b : Int, ((nodes k : Int) ≤ b ∨ (nodes k = 1) → size k b = nodes k) ∧ (b < nodes k → b < size k b ∨ b < 1)) → ∀ n : Int, 1 ≤ n →
        ((n + nodesL l ≤ b → sizeL l b n = n + nodesL l) ∧ (b < n + nodesL l → n ≤ b → b < sizeL l b n) ∧ (b < n → sizeL l b n = n)) := by
      intro l
      induction l with
      | nil => intro _ n hn; exact ⟨fun _ => by simp [sizeL, nodesL], fun h1 h2 => by simp only [nodesL] at h1; omega, fun _ => by simp [sizeL]⟩
      | cons x xs ihl =>
        intro h n hn
        have h1 := h x (by simp) (b - n)
        have h2 := ihl (fun k hk => h k (by simp [hk])) (n + size x (b - n)) (by have := size_bd x (b - n); omega)
        have h3 := size_bd x (b - n)
        have h4 : 1 ≤ nodes x := by rw [nodes_eq]; omega
        simp only [sizeL, nodesL]
        split
        · refine ⟨?_, ?_, ?_⟩
          · intro hle
            have e1 := h1.1 (by omega)
            rw [h2.1 (by omega)]; omega
          · intro hlt hnb
            by_cases hx : (nodes x : Int) ≤ b - n
            · have e1 := h1.1 (.inl hx)
              by_cases hy : n + size x (b - n) ≤ b
              · exact h2.2.1 (by omega) hy
              · rw [h2.2.2 (by omega)]; omega
            · have := h1.2 (by omega)
              rw [h2.2.2 (by omega)]; omega
          · omega
        · refine ⟨?_, ?_, ?_⟩ <;> intros <;> omega
    have hk := key e.kids ih 1 (by omega)
    cases hl : e.kids with
    | nil => simp only [sizeL, nodesL]; omega
    | cons x xs =>
      rw [hl] at hk
      have h4 : 1 ≤ nodesL (x :: xs) := by simp only [nodesL]; have : 1 ≤ nodes x := by rw [nodes_eq]; omega
                                           omega
      refine ⟨fun h => ?_, fun h => ?_⟩
      · rw [hk.1 (by omega)]; omega
      · by_cases hb : 1 ≤ b
        · exact .inl (hk.2.1 (by omega) hb)
        · exact .inr (by omega)

/-- The bound of 'Size'. -/
theorem size_gt (e : Ex) (b : Int) (hb : 1 ≤ b) : b < size e b ↔ b < nodes e := by
  have := size_nodes e b
  constructor
  · intro h
    rcases Int.lt_or_le b (nodes e) with h' | h'
    · exact h'
    · rw [this.1 (.inl h')] at h; omega
  · intro h; have := this.2 h; omega
end Go.Proofs.Ytiifbdkedainnaa.AL

set_option linter.unusedVariables false
set_option linter.unusedSimpArgs false
namespace Go.Proofs.Ytiifbdkedainnaa.Y
open Go.Proofs.Ytiifbdkedainnaa.AL Go.Proofs Go
attribute [local irreducible] AWP AWL AWG AWR AWE AWX AWO AWSeq AWSG AWSR AWSO AWSE AWSF GoodP OGW OGR OGE OGX PGW PGR PGE Wk AWLoop AWPD AWLD

theorem parts_run (e : Ex) (H0 : List AObj) : ARun Try.prog 88 [.ag (cE e)] H0 (.ret (.rs 4 (e.kids.map encE)) H0) := by
  (refine ARun.intro Try.func88 rfl Try.call88 Try.ntmps88 Try.results88 ?_; simp only [List.length_cons, List.length_nil, List.length_map, Nat.reduceAdd, Nat.reduceSub, List.replicate_succ, List.replicate_zero, List.cons_append, List.nil_append])
  repeat' (first | refine awp_seq ?_ | refine awp_block ?_ | refine awp_scope ?_ | ((first | refine awp_region_k fun Kn Kp hn hp => ?_) <;> (simp only [go_sem, Nat.reduceAdd, Nat.reduceSub, Nat.reduceMul, Nat.reduceLeDiff, Nat.reduceLT, Nat.reduceEqDiff, Int.reduceToNat, Int.reduceAdd, Int.reduceMul, Int.reduceSub, Int.reduceLT, Int.reduceLE, Int.reduceEq, Int.reduceNeg, Int.reduceBEq, Int.reduceBNe, ↓reduceIte, reduceCtorEq] <;> try simp (disch := omega) only [wrap_of])) | (refine hn _ _ ?_; clear hn hp Kn Kp) | (refine hp _ _ _ ?_; clear hn hp Kn Kp) | (refine awp_cond rfl (fun hb => ?_) (fun hb => ?_) <;> (try simp only [decide_eq_true_eq, decide_eq_false_iff_not, Bool.not_eq_true', Bool.not_eq_false', Bool.true_eq_false, Bool.false_eq_true, beq_iff_eq, bne_iff_ne, bne_eq_false_iff_eq, beq_eq_false_iff_ne, gt_iff_lt, ge_iff_le, Int.reduceEq, Int.reduceNe, Int.reduceLT, Int.reduceLE, ne_eq, not_true_eq_false, not_false_eq_true] at hb)) | ((first | refine awg_split (fun hb => ?_) (fun hb => ?_)) <;> have hb0 := hb <;> (try simp only [decide_eq_true_eq, decide_eq_false_iff_not, Bool.not_eq_true', Bool.not_eq_false', Bool.true_eq_false, Bool.false_eq_true, beq_iff_eq, bne_iff_ne, bne_eq_false_iff_eq, beq_eq_false_iff_ne, gt_iff_lt, ge_iff_le, Int.reduceEq, Int.reduceNe, Int.reduceLT, Int.reduceLE, ne_eq, not_true_eq_false, not_false_eq_true] at hb0) <;> (try simp only [beq_true, beq_false, Bool.not_eq_true', Bool.not_eq_false'] at hb) <;> (simp only [go_sem, Nat.reduceAdd, Nat.reduceSub, Nat.reduceMul, Nat.reduceLeDiff, Nat.reduceLT, Nat.reduceEqDiff, Int.reduceToNat, Int.reduceAdd, Int.reduceMul, Int.reduceSub, Int.reduceLT, Int.reduceLE, Int.reduceEq, Int.reduceNeg, Int.reduceBEq, Int.reduceBNe, ↓reduceIte, reduceCtorEq, hb, hb0] <;> try simp (disch := omega) only [wrap_of])) | refine awp_skip ?_ | refine awp_ret ?_ | refine awp_exit ?_ | refine awp_label ?_ | refine awloop_step ?_ | fail)
  ((try simp only [go_sem, Nat.reduceAdd, Nat.reduceSub, Nat.reduceMul, Nat.reduceLeDiff, Nat.reduceLT, Nat.reduceEqDiff, Int.reduceToNat, Int.reduceAdd, Int.reduceMul, Int.reduceSub, Int.reduceLT, Int.reduceLE, Int.reduceEq, Int.reduceNeg, Int.reduceBEq, Int.reduceBNe, ↓reduceIte, reduceCtorEq]); (first | refine ⟨_, rfl, _, rfl, Fin.pure0 0 ?_⟩ | refine ⟨_, rfl, _, rfl, Fin.pure 1 ?_⟩); simp only [AV.low, List.map_cons, List.map_nil, aOne, aev, List.getElem?_cons_zero, List.getElem?_cons_succ, Option.getD_some, List.length_append, List.length_cons, List.length_nil, Nat.lt_irrefl, if_false]; try rfl)

theorem Size_run (e : Ex) : ∀ (b : Int) (H0 : List AObj), -1000000 ≤ b → b ≤ 1000000 → ARun Try.prog 40 [.ag (cE e), .i b] H0 (.ret (.i (size e b)) H0) := by
  induction e using Ex.ind with
  | h e ih =>
    intro b H0 hb1 hb2
    (refine ARun.intro Try.func40 rfl Try.call40 Try.ntmps40 Try.results40 ?_; simp only [List.length_cons, List.length_nil, List.length_map, Nat.reduceAdd, Nat.reduceSub, List.replicate_succ, List.replicate_zero, List.cons_append, List.nil_append])
    refine awp_len_agg 0 3 rfl rfl fun hlen => ?_
    rw [List.length_map] at hlen
    repeat' (first | refine awp_seq ?_ | refine awp_block ?_ | refine awp_scope ?_ | ((first | refine awp_region_k fun Kn Kp hn hp => ?_) <;> (simp only [go_sem, Nat.reduceAdd, Nat.reduceSub, Nat.reduceMul, Nat.reduceLeDiff, Nat.reduceLT, Nat.reduceEqDiff, Int.reduceToNat, Int.reduceAdd, Int.reduceMul, Int.reduceSub, Int.reduceLT, Int.reduceLE, Int.reduceEq, Int.reduceNeg, Int.reduceBEq, Int.reduceBNe, ↓reduceIte, reduceCtorEq] <;> try simp (disch := omega) only [wrap_of])) | (refine hn _ _ ?_; clear hn hp Kn Kp) | (refine hp _ _ _ ?_; clear hn hp Kn Kp) | (refine awp_cond rfl (fun hb => ?_) (fun hb => ?_) <;> (try simp only [decide_eq_true_eq, decide_eq_false_iff_not, Bool.not_eq_true', Bool.not_eq_false', Bool.true_eq_false, Bool.false_eq_true, beq_iff_eq, bne_iff_ne, bne_eq_false_iff_eq, beq_eq_false_iff_ne, gt_iff_lt, ge_iff_le, Int.reduceEq, Int.reduceNe, Int.reduceLT, Int.reduceLE, ne_eq, not_true_eq_false, not_false_eq_true] at hb)) | ((first | refine awg_split (fun hb => ?_) (fun hb => ?_)) <;> have hb0 := hb <;> (try simp only [decide_eq_true_eq, decide_eq_false_iff_not, Bool.not_eq_true', Bool.not_eq_false', Bool.true_eq_false, Bool.false_eq_true, beq_iff_eq, bne_iff_ne, bne_eq_false_iff_eq, beq_eq_false_iff_ne, gt_iff_lt, ge_iff_le, Int.reduceEq, Int.reduceNe, Int.reduceLT, Int.reduceLE, ne_eq, not_true_eq_false, not_false_eq_true] at hb0) <;> (try simp only [beq_true, beq_false, Bool.not_eq_true', Bool.not_eq_false'] at hb) <;> (simp only [go_sem, Nat.reduceAdd, Nat.reduceSub, Nat.reduceMul, Nat.reduceLeDiff, Nat.reduceLT, Nat.reduceEqDiff, Int.reduceToNat, Int.reduceAdd, Int.reduceMul, Int.reduceSub, Int.reduceLT, Int.reduceLE, Int.reduceEq, Int.reduceNeg, Int.reduceBEq, Int.reduceBNe, ↓reduceIte, reduceCtorEq, hb, hb0] <;> try simp (disch := omega) only [wrap_of])) | refine awp_skip ?_ | refine awp_ret ?_ | refine awp_exit ?_ | refine awp_label ?_ | refine awloop_step ?_ | fail)
    refine awp_loop_ind (σ := Nat × Int) (fun s => e.kids.length - s.1) (fun s => 1 ≤ s.2 ∧ (s.2 ≤ 1 ∨ s.2 ≤ b + 1) ∧ sizeL (e.kids.drop s.1) b s.2 = size e b)
      (fun s => (.any :: .i b :: .p H0.length 0 :: .any :: .any :: .i s.2 :: .i s.1 :: .any :: .any :: .any :: .any :: .any :: .any :: .any :: .any :: .any :: .any :: .any :: .any :: .any :: .any :: .any :: .any :: .any :: .any :: .any :: .any :: .any :: .any :: .any :: .any :: []))
      (fun s => H0 ++ [.cells 71 [.i e.op, .i e.n, .i e.unit, .rs 4 (e.kids.map encE)]]) (0, 1) ⟨by omega, by omega, by rw [size_eq]; rfl⟩ (by (refine Wk.fgt ?_; simp only [Fgt, List.length_nil, List.set_cons_zero, List.set_cons_succ, Int.natCast_zero, Int.cast_ofNat_Int, Int.ofNat_eq_natCast, true_or, or_true, true_and, and_true, and_self, eq_self])) ?_
    rintro ⟨i, n⟩ ⟨h2, h3, h4⟩
    simp only at h2 h3 h4 ⊢
    cases hr : e.kids.drop i with
    | nil =>
      have hlt := drop_nil hr
      rw [hr, sizeL] at h4
      repeat' (first | refine awp_seq ?_ | refine awp_block ?_ | refine awp_scope ?_ | ((first | refine awp_region_k fun Kn Kp hn hp => ?_) <;> (simp only [go_sem, Nat.reduceAdd, Nat.reduceSub, Nat.reduceMul, Nat.reduceLeDiff, Nat.reduceLT, Nat.reduceEqDiff, Int.reduceToNat, Int.reduceAdd, Int.reduceMul, Int.reduceSub, Int.reduceLT, Int.reduceLE, Int.reduceEq, Int.reduceNeg, Int.reduceBEq, Int.reduceBNe, ↓reduceIte, reduceCtorEq, hlt] <;> try simp (disch := omega) only [wrap_of])) | (refine hn _ _ ?_; clear hn hp Kn Kp) | (refine hp _ _ _ ?_; clear hn hp Kn Kp) | (refine awp_cond rfl (fun hb => ?_) (fun hb => ?_) <;> (try simp only [decide_eq_true_eq, decide_eq_false_iff_not, Bool.not_eq_true', Bool.not_eq_false', Bool.true_eq_false, Bool.false_eq_true, beq_iff_eq, bne_iff_ne, bne_eq_false_iff_eq, beq_eq_false_iff_ne, gt_iff_lt, ge_iff_le, Int.reduceEq, Int.reduceNe, Int.reduceLT, Int.reduceLE, ne_eq, not_true_eq_false, not_false_eq_true] at hb)) | ((first | refine awg_split (fun hb => ?_) (fun hb => ?_)) <;> have hb0 := hb <;> (try simp only [decide_eq_true_eq, decide_eq_false_iff_not, Bool.not_eq_true', Bool.not_eq_false', Bool.true_eq_false, Bool.false_eq_true, beq_iff_eq, bne_iff_ne, bne_eq_false_iff_eq, beq_eq_false_iff_ne, gt_iff_lt, ge_iff_le, Int.reduceEq, Int.reduceNe, Int.reduceLT, Int.reduceLE, ne_eq, not_true_eq_false, not_false_eq_true] at hb0) <;> (try simp only [beq_true, beq_false, Bool.not_eq_true', Bool.not_eq_false'] at hb) <;> (simp only [go_sem, Nat.reduceAdd, Nat.reduceSub, Nat.reduceMul, Nat.reduceLeDiff, Nat.reduceLT, Nat.reduceEqDiff, Int.reduceToNat, Int.reduceAdd, Int.reduceMul, Int.reduceSub, Int.reduceLT, Int.reduceLE, Int.reduceEq, Int.reduceNeg, Int.reduceBEq, Int.reduceBNe, ↓reduceIte, reduceCtorEq, hlt, hb, hb0] <;> try simp (disch := omega) only [wrap_of])) | refine awp_skip ?_ | refine awp_ret ?_ | refine awp_exit ?_ | refine awp_label ?_ | refine awloop_step ?_ | fail)
      ((try simp only [go_sem, Nat.reduceAdd, Nat.reduceSub, Nat.reduceMul, Nat.reduceLeDiff, Nat.reduceLT, Nat.reduceEqDiff, Int.reduceToNat, Int.reduceAdd, Int.reduceMul, Int.reduceSub, Int.reduceLT, Int.reduceLE, Int.reduceEq, Int.reduceNeg, Int.reduceBEq, Int.reduceBNe, ↓reduceIte, reduceCtorEq]); (first | refine ⟨_, rfl, _, rfl, Fin.pure0 0 ?_⟩ | refine ⟨_, rfl, _, rfl, Fin.pure 1 ?_⟩); simp only [AV.low, List.map_cons, List.map_nil, aOne, aev, List.getElem?_cons_zero, List.getElem?_cons_succ, Option.getD_some, List.length_append, List.length_cons, List.length_nil, Nat.lt_irrefl, if_false]; try rfl)
      rw [h4]
    | cons k rest =>
      obtain ⟨hk, hlt, hd, hm⟩ := drop_cons hr
      rw [hr, sizeL] at h4
      have hz := size_bd k (b - n)
      repeat' (first | refine awp_seq ?_ | refine awp_block ?_ | refine awp_scope ?_ | ((first | refine awp_region_k fun Kn Kp hn hp => ?_ | (show AWE _ _ _ _ _ _ _ _ _; first | refine awe_intro (ih k hm _ _ (by omega) (by omega)) ?_)) <;> (simp only [go_sem, Nat.reduceAdd, Nat.reduceSub, Nat.reduceMul, Nat.reduceLeDiff, Nat.reduceLT, Nat.reduceEqDiff, Int.reduceToNat, Int.reduceAdd, Int.reduceMul, Int.reduceSub, Int.reduceLT, Int.reduceLE, Int.reduceEq, Int.reduceNeg, Int.reduceBEq, Int.reduceBNe, ↓reduceIte, reduceCtorEq, hlt, hk, encE_eq] <;> try simp (disch := omega) only [wrap_of])) | (refine hn _ _ ?_; clear hn hp Kn Kp) | (refine hp _ _ _ ?_; clear hn hp Kn Kp) | (refine awp_cond rfl (fun hb => ?_) (fun hb => ?_) <;> (try simp only [decide_eq_true_eq, decide_eq_false_iff_not, Bool.not_eq_true', Bool.not_eq_false', Bool.true_eq_false, Bool.false_eq_true, beq_iff_eq, bne_iff_ne, bne_eq_false_iff_eq, beq_eq_false_iff_ne, gt_iff_lt, ge_iff_le, Int.reduceEq, Int.reduceNe, Int.reduceLT, Int.reduceLE, ne_eq, not_true_eq_false, not_false_eq_true] at hb)) | ((first | refine awg_split (fun hb => ?_) (fun hb => ?_)) <;> have hb0 := hb <;> (try simp only [decide_eq_true_eq, decide_eq_false_iff_not, Bool.not_eq_true', Bool.not_eq_false', Bool.true_eq_false, Bool.false_eq_true, beq_iff_eq, bne_iff_ne, bne_eq_false_iff_eq, beq_eq_false_iff_ne, gt_iff_lt, ge_iff_le, Int.reduceEq, Int.reduceNe, Int.reduceLT, Int.reduceLE, ne_eq, not_true_eq_false, not_false_eq_true] at hb0) <;> (try simp only [beq_true, beq_false, Bool.not_eq_true', Bool.not_eq_false'] at hb) <;> (simp only [go_sem, Nat.reduceAdd, Nat.reduceSub, Nat.reduceMul, Nat.reduceLeDiff, Nat.reduceLT, Nat.reduceEqDiff, Int.reduceToNat, Int.reduceAdd, Int.reduceMul, Int.reduceSub, Int.reduceLT, Int.reduceLE, Int.reduceEq, Int.reduceNeg, Int.reduceBEq, Int.reduceBNe, ↓reduceIte, reduceCtorEq, hlt, hk, encE_eq, hb, hb0] <;> try simp (disch := omega) only [wrap_of])) | refine awp_skip ?_ | refine awp_ret ?_ | refine awp_exit ?_ | refine awp_label ?_ | refine awloop_step ?_ | fail)
      · refine ⟨(i + 1, n + size k (b - n)), by simp only; omega, ⟨by omega, by omega, by rw [hd]; rw [if_pos hb] at h4; exact h4⟩, ?_⟩
        (refine Wk.fgt ?_; simp only [Fgt, List.length_nil, List.set_cons_zero, List.set_cons_succ, Int.natCast_zero, Int.cast_ofNat_Int, Int.ofNat_eq_natCast, true_or, or_true, true_and, and_true, and_self, eq_self])
        simp [wrap_of (n := (i : Int) + 1) (by omega) (by omega)]
      · ((try simp only [go_sem, Nat.reduceAdd, Nat.reduceSub, Nat.reduceMul, Nat.reduceLeDiff, Nat.reduceLT, Nat.reduceEqDiff, Int.reduceToNat, Int.reduceAdd, Int.reduceMul, Int.reduceSub, Int.reduceLT, Int.reduceLE, Int.reduceEq, Int.reduceNeg, Int.reduceBEq, Int.reduceBNe, ↓reduceIte, reduceCtorEq]); (first | refine ⟨_, rfl, _, rfl, Fin.pure0 0 ?_⟩ | refine ⟨_, rfl, _, rfl, Fin.pure 1 ?_⟩); simp only [AV.low, List.map_cons, List.map_nil, aOne, aev, List.getElem?_cons_zero, List.getElem?_cons_succ, Option.getD_some, List.length_append, List.length_cons, List.length_nil, Nat.lt_irrefl, if_false]; try rfl)
        rw [if_neg hb] at h4
        rw [h4]
end Go.Proofs.Ytiifbdkedainnaa.Y

/- Plain laws: counts. -/
set_option linter.unusedVariables false
namespace Go.Proofs.Ytiifbdkedainnaa.AL

mutual
def cntE : Ex → Int → Int
  | .mk _ _ _ kids, b => cntEL kids b 0
def cntEL : List Ex → Int → Int → Int
  | [], _, n => n
  | e :: es, b, n => if n > b then n else cntEL es b (n + (1 + cntE e (b - n)))
end
theorem cntE_eq (e : Ex) (b : Int) : cntE e b = cntEL e.kids b 0 := by cases e; simp [cntE, Ex.kids]
theorem cntE_bd (e : Ex) : ∀ b, 0 ≤ cntE e b ∧ cntE e b + 1 ≤ nodes e := by
  induction e using Ex.ind with
  | h e ih =>
    intro b
    rw [cntE_eq, nodes_eq]
    have key : ∀ l : List Ex, (∀ k ∈ l, ∀ b, 0 ≤ cntE k b ∧ cntE k b + 1 ≤ nodes k) → ∀ n, n ≤ cntEL l b n ∧ cntEL l b n ≤ n + nodesL l := by
      intro l
      induction l with
      | nil => intro _ n; simp [cntEL, nodesL]
      | cons x xs ihl =>
        intro h n
        simp only [cntEL, nodesL]
        have h1 := h x (by simp) (b - n)
        split
        · omega
        · have h2 := ihl (fun k hk => h k (by simp [hk])) (n + (1 + cntE x (b - n)))
          omega
    have := key e.kids ih 0
    omega
theorem cntEL_bd (l : List Ex) (b : Int) : ∀ n, n ≤ cntEL l b n ∧ cntEL l b n ≤ n + nodesL l := by
  induction l with
  | nil => intro n; simp [cntEL, nodesL]
  | cons x xs ihl =>
    intro n
    simp only [cntEL, nodesL]
    have h1 := cntE_bd x (b - n)
    split
    · omega
    · have h2 := ihl (n + (1 + cntE x (b - n)))
      omega
/-- Count and nodes. -/
theorem cntE_nodes (e : Ex) : ∀ b : Int, 0 ≤ b → ((nodes e : Int) ≤ b + 1 → cntE e b + 1 = nodes e) ∧ (b + 1 < nodes e → b < cntE e b) := by
  induction e using Ex.ind with
  | h e ih =>
    intro b hb
    rw [cntE_eq, nodes_eq]
    have key : ∀ l : List Ex, (∀ k ∈ l, ∀ b : Int, 0 ≤ b → ((nodes k : Int) ≤ b + 1 → cntE k b + 1 = nodes k) ∧ (b + 1 < nodes k → b < cntE k b)) → ∀ n : Int,
        (n + nodesL l ≤ b → cntEL l b n = n + nodesL l) ∧ (b < n + nodesL l → b < cntEL l b n) := by
      intro l
      induction l with
      | nil => intro _ n; simp only [cntEL, nodesL]; omega
      | cons x xs ihl =>
        intro h n
        have h4 := cntE_bd x (b - n)
        simp only [cntEL, nodesL]
        split
        · omega
        · have h1 := h x (by simp) (b - n) (by omega)
          have h2 := ihl (fun k hk => h k (by simp [hk])) (n + (1 + cntE x (b - n)))
          have h3 := cntEL_bd xs b (n + (1 + cntE x (b - n)))
          constructor
          · intro hle
            have := h1.1 (by omega)
            rw [h2.1 (by omega)]; omega
          · intro hlt
            by_cases hx : (nodes x : Int) ≤ b - n + 1
            · have e1 := h1.1 hx
              exact h2.2 (by omega)
            · have := h1.2 (by omega)
              omega
    have hk := key e.kids ih 0
    constructor
    · intro h; rw [hk.1 (by omega)]; omega
    · intro h; exact hk.2 (by omega)
theorem cnt1 (e : Ex) (b : Int) (hb : 0 ≤ b) : cntEL [e] b 0 > b ↔ b < nodes e := by
  have h1 := cntE_nodes e b hb
  have h2 := cntE_bd e b
  simp only [cntEL, Int.sub_zero]
  rw [if_neg (by omega)]
  omega
theorem nodesL_mem {l : List Ex} {k : Ex} (h : k ∈ l) : nodesL k.kids + 1 ≤ nodesL l := by
  induction l with
  | nil => cases h
  | cons x xs ih =>
    simp only [nodesL]
    rcases List.mem_cons.1 h with rfl | h
    · rw [nodes_eq]; omega
    · have := ih h; omega
theorem nodes_mem {l : List Ex} {k : Ex} (h : k ∈ l) : nodes k ≤ nodesL l := by
  induction l with
  | nil => cases h
  | cons x xs ih =>
    simp only [nodesL]
    rcases List.mem_cons.1 h with rfl | h
    · omega
    · have := ih h; omega
theorem len_nodesL (l : List Ex) : l.length ≤ nodesL l := by
  induction l with
  | nil => simp
  | cons x xs ih => simp only [List.length_cons, nodesL]; rw [nodes_eq]; omega

/-! ### statements -/
def innerL (s : St) : List St := if s.kind = 2 then s.thn ++ s.els else []
mutual
def many : St → Nat
  | .mk k _ _ _ _ t e => 1 + (if k = 2 then manyL t + manyL e else 0)
def manyL : List St → Nat
  | [] => 0
  | s :: ss => many s + manyL ss
end
theorem many_eq (s : St) : many s = 1 + (if s.kind = 2 then manyL s.thn + manyL s.els else 0) := by cases s; rw [many]; rfl
theorem manyL_append (l m : List St) : manyL (l ++ m) = manyL l + manyL m := by
  induction l with
  | nil => simp [manyL]
  | cons x xs ih => simp only [List.cons_append, manyL, ih]; omega
theorem many_inner (s : St) : many s = 1 + manyL (innerL s) := by
  rw [many_eq]; unfold innerL; split
  · rw [manyL_append]
  · simp [manyL]
mutual
def cntS : St → Int → Int
  | .mk k _ _ _ _ t e, b => if k = 2 then cntSL e b (cntSL t b 0) else 0
def cntSL : List St → Int → Int → Int
  | [], _, n => n
  | s :: ss, b, n => if n > b then n else cntSL ss b (n + (1 + cntS s (b - n)))
end
theorem cntSL_big (l : List St) (b n : Int) (h : n > b) : cntSL l b n = n := by
  cases l with
  | nil => simp [cntSL]
  | cons x xs => simp [cntSL, h]
theorem cntSL_append (l m : List St) (b : Int) : ∀ n, cntSL (l ++ m) b n = cntSL m b (cntSL l b n) := by
  induction l with
  | nil => intro n; simp [cntSL]
  | cons x xs ih =>
    intro n
    simp only [List.cons_append, cntSL]
    split
    · rename_i h; rw [cntSL_big m b n h]
    · rw [ih]
theorem cntS_eq (s : St) (b : Int) : cntS s b = cntSL (innerL s) b 0 := by
  have : cntS s b = if s.kind = 2 then cntSL s.els b (cntSL s.thn b 0) else 0 := by cases s; rw [cntS]; rfl
  rw [this]; unfold innerL
  split
  · rw [cntSL_append]
  · simp [cntSL]
theorem St.indI {p : St → Prop} (h : ∀ s, (∀ k ∈ innerL s, p k) → p s) (s : St) : p s := by
  induction s using St.ind with
  | h s h1 h2 =>
    refine h s (fun k hk => ?_)
    unfold innerL at hk
    split at hk
    · rcases List.mem_append.1 hk with hk | hk
      · exact h1 k hk
      · exact h2 k hk
    · cases hk
theorem cntS_bd (s : St) : ∀ b, 0 ≤ cntS s b ∧ cntS s b + 1 ≤ many s := by
  induction s using St.indI with
  | h s ih =>
    intro b
    rw [cntS_eq, many_inner]
    have key : ∀ l : List St, (∀ k ∈ l, ∀ b, 0 ≤ cntS k b ∧ cntS k b + 1 ≤ many k) → ∀ n, n ≤ cntSL l b n ∧ cntSL l b n ≤ n + manyL l := by
      intro l
      induction l with
      | nil => intro _ n; simp [cntSL, manyL]
      | cons x xs ihl =>
        intro h n
        simp only [cntSL, manyL]
        have h1 := h x (by simp) (b - n)
        split
        · omega
        · have h2 := ihl (fun k hk => h k (by simp [hk])) (n + (1 + cntS x (b - n)))
          omega
    have := key (innerL s) ih 0
    omega
theorem cntSL_bd (l : List St) (b : Int) : ∀ n, n ≤ cntSL l b n ∧ cntSL l b n ≤ n + manyL l := by
  induction l with
  | nil => intro n; simp [cntSL, manyL]
  | cons x xs ihl =>
    intro n
    simp only [cntSL, manyL]
    have h1 := cntS_bd x (b - n)
    split
    · omega
    · have h2 := ihl (n + (1 + cntS x (b - n)))
      omega
theorem cntSL_many (l : List St) (b : Int) (hb : 0 ≤ b) : ((manyL l : Int) ≤ b → cntSL l b 0 = manyL l) ∧ (b < manyL l → b < cntSL l b 0) := by
  have keyS : ∀ s : St, ∀ b : Int, 0 ≤ b → ((many s : Int) ≤ b + 1 → cntS s b + 1 = many s) ∧ (b + 1 < many s → b < cntS s b) := by
    intro s
    induction s using St.indI with
    | h s ih =>
      intro b hb
      rw [cntS_eq, many_inner]
      have key : ∀ l : List St, (∀ k ∈ l, ∀ b : Int, 0 ≤ b → ((many k : Int) ≤ b + 1 → cntS k b + 1 = many k) ∧ (b + 1 < many k → b < cntS k b)) → ∀ n : Int,
          (n + manyL l ≤ b → cntSL l b n = n + manyL l) ∧ (b < n + manyL l → b < cntSL l b n) := by
        intro l
        induction l with
        | nil => intro _ n; simp only [cntSL, manyL]; omega
        | cons x xs ihl =>
          intro h n
          have h4 := cntS_bd x (b - n)
          simp only [cntSL, manyL]
          split
          · omega
          · have h1 := h x (by simp) (b - n) (by omega)
            have h2 := ihl (fun k hk => h k (by simp [hk])) (n + (1 + cntS x (b - n)))
            have h3 := cntSL_bd xs b (n + (1 + cntS x (b - n)))
            constructor
            · intro hle
              have := h1.1 (by omega)
              rw [h2.1 (by omega)]; omega
            · intro hlt
              by_cases hx : (many x : Int) ≤ b - n + 1
              · have e1 := h1.1 hx
                exact h2.2 (by omega)
              · have := h1.2 (by omega)
                omega
      have hk := key (innerL s) ih 0
      constructor
      · intro h; rw [hk.1 (by omega)]; omega
      · intro h; exact hk.2 (by omega)
  have key : ∀ (l : List St) (n : Int), (n + manyL l ≤ b → cntSL l b n = n + manyL l) ∧ (b < n + manyL l → b < cntSL l b n) := by
    intro l
    induction l with
    | nil => intro n; simp only [cntSL, manyL]; omega
    | cons x xs ihl =>
      intro n
      have h4 := cntS_bd x (b - n)
      simp only [cntSL, manyL]
      split
      · omega
      · have h1 := keyS x (b - n) (by omega)
        have h2 := ihl (n + (1 + cntS x (b - n)))
        have h3 := cntSL_bd xs b (n + (1 + cntS x (b - n)))
        constructor
        · intro hle
          have := h1.1 (by omega)
          rw [h2.1 (by omega)]; omega
        · intro hlt
          by_cases hx : (many x : Int) ≤ b - n + 1
          · have e1 := h1.1 hx
            exact h2.2 (by omega)
          · have := h1.2 (by omega)
            omega
  have := key l 0
  omega
theorem manyL_mem {l : List St} {k : St} (h : k ∈ l) : manyL (innerL k) + 1 ≤ manyL l := by
  induction l with
  | nil => cases h
  | cons x xs ih =>
    simp only [manyL]
    rcases List.mem_cons.1 h with rfl | h
    · rw [many_inner]; omega
    · have := ih h; omega
theorem len_manyL (l : List St) : l.length ≤ manyL l := by
  induction l with
  | nil => simp
  | cons x xs ih => simp only [List.length_cons, manyL]; rw [many_inner]; omega
end Go.Proofs.Ytiifbdkedainnaa.AL

set_option linter.unusedVariables false
set_option linter.unusedSimpArgs false
namespace Go.Proofs.Ytiifbdkedainnaa.Y
open Go.Proofs.Ytiifbdkedainnaa.AL Go.Proofs Go
attribute [local irreducible] AWP AWL AWG AWR AWE AWX AWO AWSeq AWSG AWSR AWSO AWSE AWSF GoodP OGW OGR OGE OGX PGW PGR PGE Wk AWLoop AWPD AWLD

theorem count_run : ∀ (N : Nat) (l : List Ex), nodesL l ≤ N → nodesL l ≤ 1000000 → ∀ (b : Int) (H0 : List AObj), 0 ≤ b → b ≤ 1000000 →
    ARun Try.prog 87 [.rs 4 (l.map encE), .fn (.func 88) [] [], .i b] H0 (.ret (.i (cntEL l b 0)) H0) := by
  intro N
  induction N with
  | zero =>
    intro l hN _ b H0 hb1 hb2
    have hl : l = [] := by have := len_nodesL l; exact List.eq_nil_of_length_eq_zero (by omega)
    subst hl
    (refine ARun.intro Try.func87 rfl Try.call87 Try.ntmps87 Try.results87 ?_; simp only [List.length_cons, List.length_nil, List.length_map, Nat.reduceAdd, Nat.reduceSub, List.replicate_succ, List.replicate_zero, List.cons_append, List.nil_append])
    repeat' (first | refine awp_seq ?_ | refine awp_block ?_ | refine awp_scope ?_ | ((first | refine awp_region_k fun Kn Kp hn hp => ?_) <;> (simp only [go_sem, Nat.reduceAdd, Nat.reduceSub, Nat.reduceMul, Nat.reduceLeDiff, Nat.reduceLT, Nat.reduceEqDiff, Int.reduceToNat, Int.reduceAdd, Int.reduceMul, Int.reduceSub, Int.reduceLT, Int.reduceLE, Int.reduceEq, Int.reduceNeg, Int.reduceBEq, Int.reduceBNe, ↓reduceIte, reduceCtorEq] <;> try simp (disch := omega) only [wrap_of])) | (refine hn _ _ ?_; clear hn hp Kn Kp) | (refine hp _ _ _ ?_; clear hn hp Kn Kp) | (refine awp_cond rfl (fun hb => ?_) (fun hb => ?_) <;> (try simp only [decide_eq_true_eq, decide_eq_false_iff_not, Bool.not_eq_true', Bool.not_eq_false', Bool.true_eq_false, Bool.false_eq_true, beq_iff_eq, bne_iff_ne, bne_eq_false_iff_eq, beq_eq_false_iff_ne, gt_iff_lt, ge_iff_le, Int.reduceEq, Int.reduceNe, Int.reduceLT, Int.reduceLE, ne_eq, not_true_eq_false, not_false_eq_true] at hb)) | ((first | refine awg_split (fun hb => ?_) (fun hb => ?_)) <;> have hb0 := hb <;> (try simp only [decide_eq_true_eq, decide_eq_false_iff_not, Bool.not_eq_true', Bool.not_eq_false', Bool.true_eq_false, Bool.false_eq_true, beq_iff_eq, bne_iff_ne, bne_eq_false_iff_eq, beq_eq_false_iff_ne, gt_iff_lt, ge_iff_le, Int.reduceEq, Int.reduceNe, Int.reduceLT, Int.reduceLE, ne_eq, not_true_eq_false, not_false_eq_true] at hb0) <;> (try simp only [beq_true, beq_false, Bool.not_eq_true', Bool.not_eq_false'] at hb) <;> (simp only [go_sem, Nat.reduceAdd, Nat.reduceSub, Nat.reduceMul, Nat.reduceLeDiff, Nat.reduceLT, Nat.reduceEqDiff, Int.reduceToNat, Int.reduceAdd, Int.reduceMul, Int.reduceSub, Int.reduceLT, Int.reduceLE, Int.reduceEq, Int.reduceNeg, Int.reduceBEq, Int.reduceBNe, ↓reduceIte, reduceCtorEq, hb, hb0] <;> try simp (disch := omega) only [wrap_of])) | refine awp_skip ?_ | refine awp_ret ?_ | refine awp_exit ?_ | refine awp_label ?_ | refine awloop_step ?_ | fail)
    refine awp_loop 1 ?_
    unfold AWLoop
    repeat' (first | refine awp_seq ?_ | refine awp_block ?_ | refine awp_scope ?_ | ((first | refine awp_region_k fun Kn Kp hn hp => ?_) <;> (simp only [go_sem, Nat.reduceAdd, Nat.reduceSub, Nat.reduceMul, Nat.reduceLeDiff, Nat.reduceLT, Nat.reduceEqDiff, Int.reduceToNat, Int.reduceAdd, Int.reduceMul, Int.reduceSub, Int.reduceLT, Int.reduceLE, Int.reduceEq, Int.reduceNeg, Int.reduceBEq, Int.reduceBNe, ↓reduceIte, reduceCtorEq] <;> try simp (disch := omega) only [wrap_of])) | (refine hn _ _ ?_; clear hn hp Kn Kp) | (refine hp _ _ _ ?_; clear hn hp Kn Kp) | (refine awp_cond rfl (fun hb => ?_) (fun hb => ?_) <;> (try simp only [decide_eq_true_eq, decide_eq_false_iff_not, Bool.not_eq_true', Bool.not_eq_false', Bool.true_eq_false, Bool.false_eq_true, beq_iff_eq, bne_iff_ne, bne_eq_false_iff_eq, beq_eq_false_iff_ne, gt_iff_lt, ge_iff_le, Int.reduceEq, Int.reduceNe, Int.reduceLT, Int.reduceLE, ne_eq, not_true_eq_false, not_false_eq_true] at hb)) | ((first | refine awg_split (fun hb => ?_) (fun hb => ?_)) <;> have hb0 := hb <;> (try simp only [decide_eq_true_eq, decide_eq_false_iff_not, Bool.not_eq_true', Bool.not_eq_false', Bool.true_eq_false, Bool.false_eq_true, beq_iff_eq, bne_iff_ne, bne_eq_false_iff_eq, beq_eq_false_iff_ne, gt_iff_lt, ge_iff_le, Int.reduceEq, Int.reduceNe, Int.reduceLT, Int.reduceLE, ne_eq, not_true_eq_false, not_false_eq_true] at hb0) <;> (try simp only [beq_true, beq_false, Bool.not_eq_true', Bool.not_eq_false'] at hb) <;> (simp only [go_sem, Nat.reduceAdd, Nat.reduceSub, Nat.reduceMul, Nat.reduceLeDiff, Nat.reduceLT, Nat.reduceEqDiff, Int.reduceToNat, Int.reduceAdd, Int.reduceMul, Int.reduceSub, Int.reduceLT, Int.reduceLE, Int.reduceEq, Int.reduceNeg, Int.reduceBEq, Int.reduceBNe, ↓reduceIte, reduceCtorEq, hb, hb0] <;> try simp (disch := omega) only [wrap_of])) | refine awp_skip ?_ | refine awp_ret ?_ | refine awp_exit ?_ | refine awp_label ?_ | refine awloop_step ?_ | fail)
    ((try simp only [go_sem, Nat.reduceAdd, Nat.reduceSub, Nat.reduceMul, Nat.reduceLeDiff, Nat.reduceLT, Nat.reduceEqDiff, Int.reduceToNat, Int.reduceAdd, Int.reduceMul, Int.reduceSub, Int.reduceLT, Int.reduceLE, Int.reduceEq, Int.reduceNeg, Int.reduceBEq, Int.reduceBNe, ↓reduceIte, reduceCtorEq]); (first | refine ⟨_, rfl, _, rfl, Fin.pure0 0 ?_⟩ | refine ⟨_, rfl, _, rfl, Fin.pure 1 ?_⟩); simp only [AV.low, List.map_cons, List.map_nil, aOne, aev, List.getElem?_cons_zero, List.getElem?_cons_succ, Option.getD_some, List.length_append, List.length_cons, List.length_nil, Nat.lt_irrefl, if_false]; try rfl)
    all_goals simp [cntEL]
  | succ N ihN =>
    intro l hN hM b H0 hb1 hb2
    (refine ARun.intro Try.func87 rfl Try.call87 Try.ntmps87 Try.results87 ?_; simp only [List.length_cons, List.length_nil, List.length_map, Nat.reduceAdd, Nat.reduceSub, List.replicate_succ, List.replicate_zero, List.cons_append, List.nil_append])
    repeat' (first | refine awp_seq ?_ | refine awp_block ?_ | refine awp_scope ?_ | ((first | refine awp_region_k fun Kn Kp hn hp => ?_) <;> (simp only [go_sem, Nat.reduceAdd, Nat.reduceSub, Nat.reduceMul, Nat.reduceLeDiff, Nat.reduceLT, Nat.reduceEqDiff, Int.reduceToNat, Int.reduceAdd, Int.reduceMul, Int.reduceSub, Int.reduceLT, Int.reduceLE, Int.reduceEq, Int.reduceNeg, Int.reduceBEq, Int.reduceBNe, ↓reduceIte, reduceCtorEq] <;> try simp (disch := omega) only [wrap_of])) | (refine hn _ _ ?_; clear hn hp Kn Kp) | (refine hp _ _ _ ?_; clear hn hp Kn Kp) | (refine awp_cond rfl (fun hb => ?_) (fun hb => ?_) <;> (try simp only [decide_eq_true_eq, decide_eq_false_iff_not, Bool.not_eq_true', Bool.not_eq_false', Bool.true_eq_false, Bool.false_eq_true, beq_iff_eq, bne_iff_ne, bne_eq_false_iff_eq, beq_eq_false_iff_ne, gt_iff_lt, ge_iff_le, Int.reduceEq, Int.reduceNe, Int.reduceLT, Int.reduceLE, ne_eq, not_true_eq_false, not_false_eq_true] at hb)) | ((first | refine awg_split (fun hb => ?_) (fun hb => ?_)) <;> have hb0 := hb <;> (try simp only [decide_eq_true_eq, decide_eq_false_iff_not, Bool.not_eq_true', Bool.not_eq_false', Bool.true_eq_false, Bool.false_eq_true, beq_iff_eq, bne_iff_ne, bne_eq_false_iff_eq, beq_eq_false_iff_ne, gt_iff_lt, ge_iff_le, Int.reduceEq, Int.reduceNe, Int.reduceLT, Int.reduceLE, ne_eq, not_true_eq_false, not_false_eq_true] at hb0) <;> (try simp only [beq_true, beq_false, Bool.not_eq_true', Bool.not_eq_false'] at hb) <;> (simp only [go_sem, Nat.reduceAdd, Nat.reduceSub, Nat.reduceMul, Nat.reduceLeDiff, Nat.reduceLT, Nat.reduceEqDiff, Int.reduceToNat, Int.reduceAdd, Int.reduceMul, Int.reduceSub, Int.reduceLT, Int.reduceLE, Int.reduceEq, Int.reduceNeg, Int.reduceBEq, Int.reduceBNe, ↓reduceIte, reduceCtorEq, hb, hb0] <;> try simp (disch := omega) only [wrap_of])) | refine awp_skip ?_ | refine awp_ret ?_ | refine awp_exit ?_ | refine awp_label ?_ | refine awloop_step ?_ | fail)
    refine awp_loop_ind (σ := Nat × Int) (fun s => l.length - s.1) (fun s => 0 ≤ s.2 ∧ s.2 ≤ 1000000 ∧ cntEL (l.drop s.1) b s.2 = cntEL l b 0)
      (fun s => (.any :: (.fn (.func 88) [] []) :: .i b :: .any :: .any :: .any :: .any :: .i s.2 :: .any :: .any :: .rs 4 (l.map encE) :: .i l.length :: .i s.1 :: .any :: .any :: .any :: .any :: .any :: .any :: .any :: .any :: .any :: .any :: .any :: .any :: .any :: .any :: .any :: .any :: .any :: .any :: .any :: .any :: []))
      (fun s => H0) (0, 0) ⟨by simp, by simp, by simp⟩ (by (refine Wk.fgt ?_; simp only [Fgt, List.length_nil, List.set_cons_zero, List.set_cons_succ, Int.natCast_zero, Int.cast_ofNat_Int, Int.ofNat_eq_natCast, true_or, or_true, true_and, and_true, and_self, eq_self])) ?_
    rintro ⟨i, n⟩ ⟨h2, h3, h4⟩
    simp only at h2 h3 h4 ⊢
    have hlen := len_nodesL l
    cases hr : l.drop i with
    | nil =>
      have hlt := drop_nil hr
      rw [hr, cntEL] at h4
      repeat' (first | refine awp_seq ?_ | refine awp_block ?_ | refine awp_scope ?_ | ((first | refine awp_region_k fun Kn Kp hn hp => ?_) <;> (simp only [go_sem, Nat.reduceAdd, Nat.reduceSub, Nat.reduceMul, Nat.reduceLeDiff, Nat.reduceLT, Nat.reduceEqDiff, Int.reduceToNat, Int.reduceAdd, Int.reduceMul, Int.reduceSub, Int.reduceLT, Int.reduceLE, Int.reduceEq, Int.reduceNeg, Int.reduceBEq, Int.reduceBNe, ↓reduceIte, reduceCtorEq, hlt] <;> try simp (disch := omega) only [wrap_of])) | (refine hn _ _ ?_; clear hn hp Kn Kp) | (refine hp _ _ _ ?_; clear hn hp Kn Kp) | (refine awp_cond rfl (fun hb => ?_) (fun hb => ?_) <;> (try simp only [decide_eq_true_eq, decide_eq_false_iff_not, Bool.not_eq_true', Bool.not_eq_false', Bool.true_eq_false, Bool.false_eq_true, beq_iff_eq, bne_iff_ne, bne_eq_false_iff_eq, beq_eq_false_iff_ne, gt_iff_lt, ge_iff_le, Int.reduceEq, Int.reduceNe, Int.reduceLT, Int.reduceLE, ne_eq, not_true_eq_false, not_false_eq_true] at hb)) | ((first | refine awg_split (fun hb => ?_) (fun hb => ?_)) <;> have hb0 := hb <;> (try simp only [decide_eq_true_eq, decide_eq_false_iff_not, Bool.not_eq_true', Bool.not_eq_false', Bool.true_eq_false, Bool.false_eq_true, beq_iff_eq, bne_iff_ne, bne_eq_false_iff_eq, beq_eq_false_iff_ne, gt_iff_lt, ge_iff_le, Int.reduceEq, Int.reduceNe, Int.reduceLT, Int.reduceLE, ne_eq, not_true_eq_false, not_false_eq_true] at hb0) <;> (try simp only [beq_true, beq_false, Bool.not_eq_true', Bool.not_eq_false'] at hb) <;> (simp only [go_sem, Nat.reduceAdd, Nat.reduceSub, Nat.reduceMul, Nat.reduceLeDiff, Nat.reduceLT, Nat.reduceEqDiff, Int.reduceToNat, Int.reduceAdd, Int.reduceMul, Int.reduceSub, Int.reduceLT, Int.reduceLE, Int.reduceEq, Int.reduceNeg, Int.reduceBEq, Int.reduceBNe, ↓reduceIte, reduceCtorEq, hlt, hb, hb0] <;> try simp (disch := omega) only [wrap_of])) | refine awp_skip ?_ | refine awp_ret ?_ | refine awp_exit ?_ | refine awp_label ?_ | refine awloop_step ?_ | fail)
      ((try simp only [go_sem, Nat.reduceAdd, Nat.reduceSub, Nat.reduceMul, Nat.reduceLeDiff, Nat.reduceLT, Nat.reduceEqDiff, Int.reduceToNat, Int.reduceAdd, Int.reduceMul, Int.reduceSub, Int.reduceLT, Int.reduceLE, Int.reduceEq, Int.reduceNeg, Int.reduceBEq, Int.reduceBNe, ↓reduceIte, reduceCtorEq]); (first | refine ⟨_, rfl, _, rfl, Fin.pure0 0 ?_⟩ | refine ⟨_, rfl, _, rfl, Fin.pure 1 ?_⟩); simp only [AV.low, List.map_cons, List.map_nil, aOne, aev, List.getElem?_cons_zero, List.getElem?_cons_succ, Option.getD_some, List.length_append, List.length_cons, List.length_nil, Nat.lt_irrefl, if_false]; try rfl)
      rw [h4]
    | cons k rest =>
      obtain ⟨hk, hlt, hd, hm⟩ := drop_cons hr
      rw [hr, cntEL] at h4
      have hz := cntEL_bd k.kids (b - n) 0
      have hz2 := nodesL_mem hm
      rw [cntE_eq] at h4
      have hbd := cntEL_bd (l.drop (i + 1)) b (n + (1 + cntEL k.kids (b - n) 0))
      have hbd2 := cntEL_bd l b 0
      rw [hd] at hbd
      repeat' (first | refine awp_seq ?_ | refine awp_block ?_ | refine awp_scope ?_ | ((first | refine awp_region_k fun Kn Kp hn hp => ?_ | (show AWE _ _ _ _ _ _ _ _ _; first | refine awe_intro (parts_run k _) ?_ | refine awe_intro (ihN k.kids (by omega) (by omega) _ _ (by omega) (by omega)) ?_)) <;> (simp only [go_sem, Nat.reduceAdd, Nat.reduceSub, Nat.reduceMul, Nat.reduceLeDiff, Nat.reduceLT, Nat.reduceEqDiff, Int.reduceToNat, Int.reduceAdd, Int.reduceMul, Int.reduceSub, Int.reduceLT, Int.reduceLE, Int.reduceEq, Int.reduceNeg, Int.reduceBEq, Int.reduceBNe, ↓reduceIte, reduceCtorEq, hlt, hk, encE_eq] <;> try simp (disch := omega) only [wrap_of])) | (refine hn _ _ ?_; clear hn hp Kn Kp) | (refine hp _ _ _ ?_; clear hn hp Kn Kp) | (refine awp_cond rfl (fun hb => ?_) (fun hb => ?_) <;> (try simp only [decide_eq_true_eq, decide_eq_false_iff_not, Bool.not_eq_true', Bool.not_eq_false', Bool.true_eq_false, Bool.false_eq_true, beq_iff_eq, bne_iff_ne, bne_eq_false_iff_eq, beq_eq_false_iff_ne, gt_iff_lt, ge_iff_le, Int.reduceEq, Int.reduceNe, Int.reduceLT, Int.reduceLE, ne_eq, not_true_eq_false, not_false_eq_true] at hb)) | ((first | refine awg_split (fun hb => ?_) (fun hb => ?_)) <;> have hb0 := hb <;> (try simp only [decide_eq_true_eq, decide_eq_false_iff_not, Bool.not_eq_true', Bool.not_eq_false', Bool.true_eq_false, Bool.false_eq_true, beq_iff_eq, bne_iff_ne, bne_eq_false_iff_eq, beq_eq_false_iff_ne, gt_iff_lt, ge_iff_le, Int.reduceEq, Int.reduceNe, Int.reduceLT, Int.reduceLE, ne_eq, not_true_eq_false, not_false_eq_true] at hb0) <;> (try simp only [beq_true, beq_false, Bool.not_eq_true', Bool.not_eq_false'] at hb) <;> (simp only [go_sem, Nat.reduceAdd, Nat.reduceSub, Nat.reduceMul, Nat.reduceLeDiff, Nat.reduceLT, Nat.reduceEqDiff, Int.reduceToNat, Int.reduceAdd, Int.reduceMul, Int.reduceSub, Int.reduceLT, Int.reduceLE, Int.reduceEq, Int.reduceNeg, Int.reduceBEq, Int.reduceBNe, ↓reduceIte, reduceCtorEq, hlt, hk, encE_eq, hb, hb0] <;> try simp (disch := omega) only [wrap_of])) | refine awp_skip ?_ | refine awp_ret ?_ | refine awp_exit ?_ | refine awp_label ?_ | refine awloop_step ?_ | fail)
      · ((try simp only [go_sem, Nat.reduceAdd, Nat.reduceSub, Nat.reduceMul, Nat.reduceLeDiff, Nat.reduceLT, Nat.reduceEqDiff, Int.reduceToNat, Int.reduceAdd, Int.reduceMul, Int.reduceSub, Int.reduceLT, Int.reduceLE, Int.reduceEq, Int.reduceNeg, Int.reduceBEq, Int.reduceBNe, ↓reduceIte, reduceCtorEq]); (first | refine ⟨_, rfl, _, rfl, Fin.pure0 0 ?_⟩ | refine ⟨_, rfl, _, rfl, Fin.pure 1 ?_⟩); simp only [AV.low, List.map_cons, List.map_nil, aOne, aev, List.getElem?_cons_zero, List.getElem?_cons_succ, Option.getD_some, List.length_append, List.length_cons, List.length_nil, Nat.lt_irrefl, if_false]; try rfl)
        rw [if_pos hb] at h4
        rw [h4]
      · rw [if_neg hb] at h4
        refine ⟨(i + 1, n + (1 + cntEL k.kids (b - n) 0)), by simp only; omega, ⟨by omega, by omega, by simp only; rw [hd]; exact h4⟩, ?_⟩
        (first | (refine Wk.drop0 1 ?_; simp only [List.map_cons, List.map_nil, AV.low, List.length_append, List.length_cons, List.length_nil, Nat.lt_irrefl, if_false, Fgt, Int.natCast_zero, Int.cast_ofNat_Int, Int.ofNat_eq_natCast, true_or, or_true, true_and, and_true, and_self, eq_self]) | (refine Wk.fgt ?_; simp only [Fgt, List.length_nil, List.set_cons_zero, List.set_cons_succ, Int.natCast_zero, Int.cast_ofNat_Int, Int.ofNat_eq_natCast, true_or, or_true, true_and, and_true, and_self, eq_self]))
        simp
end Go.Proofs.Ytiifbdkedainnaa.Y

set_option linter.unusedVariables false
set_option linter.unusedSimpArgs false
namespace Go.Proofs.Ytiifbdkedainnaa.Y
open Go.Proofs.Ytiifbdkedainnaa.AL Go.Proofs Go
attribute [local irreducible] AWP AWL AWG AWR AWE AWX AWO AWSeq AWSG AWSR AWSO AWSE AWSF GoodP OGW OGR OGE OGX PGW PGR PGE Wk AWLoop AWPD AWLD
theorem dr76_3_U3 : Drawn Try.prog 3 (regOps 3 ((Try.f76.body).getD .skip)) [0, 3, 6] [] [.eff 0, .win [0, 1], .win [0, 1], .eff 1, .win [0, 1, 2], .win [0, 1, 2], .eff 2, .win [3]] 3 [] := ⟨rfl, by as_aux_lemma => kernel_rfl⟩

theorem inner_run (s : St) (H0 : List AObj) (hl : (innerL s).length ≤ 1000000) : ARun Try.prog 76 [.ag (cS s)] H0 (.ret (.rs 13 ((innerL s).map encS)) H0) := by
  unfold innerL at hl ⊢
  by_cases hk : s.kind = 2
  · rw [if_pos hk, List.length_append] at hl
    (refine ARun.intro Try.func76 rfl Try.call76 Try.ntmps76 Try.results76 ?_; simp only [List.length_cons, List.length_nil, List.length_map, Nat.reduceAdd, Nat.reduceSub, List.replicate_succ, List.replicate_zero, List.cons_append, List.nil_append])
    have h1 : s.thn.length * 168 ≤ 140737488355328 := by omega
    have h2 : s.thn.length ≤ 9223372036854775807 := by omega
    have h3 : (s.thn.length + s.els.length) * 168 ≤ 140737488355328 := by omega
    have h4 : s.thn.length + s.els.length ≤ 9223372036854775807 := by omega
    (have rr1 := dr76_3_U3; have ww1 := hk; have ww2 := h1; have ww3 := h2; have ww4 := h3; have ww5 := h4; refine wk ?_; clear rr1 ww1 ww2 ww3 ww4 ww5; (repeat' first | exact True.intro | refine Lf.mk ?_ ?_); all_goals intro hP)
    (refine resX ?_; try exact True.intro)
    rw [if_pos hk]
    have := @low_os_pvs _ (H0 ++ [.cells 73 ((cS s).map AV.pv), .arr 73 13 (((s.thn ++ s.els).map encS).map fun r => r.map AV.pv)]) H0.length 0 (H0.length + 1) 73 13 ((s.thn ++ s.els).map encS) (by rw [getOk]; rfl) (by omega)
    simpa [AV.low, hk] using this.symm
  · (refine ARun.intro Try.func76 rfl Try.call76 Try.ntmps76 Try.results76 ?_; simp only [List.length_cons, List.length_nil, List.length_map, Nat.reduceAdd, Nat.reduceSub, List.replicate_succ, List.replicate_zero, List.cons_append, List.nil_append])
    have hk' : (s.kind != 2) = true := by simpa using hk
    (have rr1 := dr76_3_U3; have ww1 := hk'; have ww2 := hk; refine wk ?_; clear rr1 ww1 ww2; (repeat' first | exact True.intro | refine Lf.mk ?_ ?_); all_goals intro hP)
    refine ⟨_, rfl, _, rfl, Fin.pureC 1 ?_⟩
    rw [if_neg hk]
    simp only [AV.low, aOne, aev, List.getElem?_cons_zero, List.getElem?_cons_succ, Option.getD_some]
    exact Cv.nil (Nat.succ_pos 12)

theorem countS_run : ∀ (N : Nat) (l : List St), manyL l ≤ N → manyL l ≤ 1000000 → ∀ (b : Int) (H0 : List AObj), 0 ≤ b → b ≤ 1000000 →
    ARun Try.prog 75 [.rs 13 (l.map encS), .fn (.func 76) [] [], .i b] H0 (.ret (.i (cntSL l b 0)) H0) := by
  intro N
  induction N with
  | zero =>
    intro l hN _ b H0 hb1 hb2
    have hl : l = [] := by have := len_manyL l; exact List.eq_nil_of_length_eq_zero (by omega)
    subst hl
    (refine ARun.intro Try.func75 rfl Try.call75 Try.ntmps75 Try.results75 ?_; simp only [List.length_cons, List.length_nil, List.length_map, Nat.reduceAdd, Nat.reduceSub, List.replicate_succ, List.replicate_zero, List.cons_append, List.nil_append])
    (refine wk ?_; (repeat' first | exact True.intro | refine Lf.mk ?_ ?_); all_goals intro hP)
    refine awp_loop 1 ?_
    unfold AWLoop
    (refine wk ?_; (repeat' first | exact True.intro | refine Lf.mk ?_ ?_); all_goals intro hP)
    (refine resX ?_; try exact True.intro)
    all_goals simp [cntSL]
  | succ N ihN =>
    intro l hN hM b H0 hb1 hb2
    (refine ARun.intro Try.func75 rfl Try.call75 Try.ntmps75 Try.results75 ?_; simp only [List.length_cons, List.length_nil, List.length_map, Nat.reduceAdd, Nat.reduceSub, List.replicate_succ, List.replicate_zero, List.cons_append, List.nil_append])
    (refine wk ?_; (repeat' first | exact True.intro | refine Lf.mk ?_ ?_); all_goals intro hP)
    refine awp_loop_ind (σ := Nat × Int) (fun s => l.length - s.1) (fun s => 0 ≤ s.2 ∧ s.2 ≤ 1000000 ∧ cntSL (l.drop s.1) b s.2 = cntSL l b 0)
      (fun s => (.any :: (.fn (.func 76) [] []) :: .i b :: .any :: .any :: .any :: .any :: .i s.2 :: .any :: .any :: .rs 13 (l.map encS) :: .i l.length :: .i s.1 :: .any :: .any :: .any :: .any :: .any :: .any :: .any :: .any :: .any :: .any :: .any :: .any :: .any :: .any :: .any :: .any :: .any :: .any :: .any :: .any :: []))
      (fun s => H0) (0, 0) ⟨by simp, by simp, by simp⟩ (by (refine fgtX ?_; try exact True.intro)) ?_
    rintro ⟨i, n⟩ ⟨h2, h3, h4⟩
    simp only at h2 h3 h4 ⊢
    have hlen := len_manyL l
    cases hr : l.drop i with
    | nil =>
      have hlt := drop_nil hr
      rw [hr, cntSL] at h4
      (have ww1 := hlt; refine wk ?_; clear ww1; (repeat' first | exact True.intro | refine Lf.mk ?_ ?_); all_goals intro hP)
      (refine resX ?_; try exact True.intro)
      rw [h4]
    | cons k rest =>
      obtain ⟨hk, hlt, hd, hm⟩ := drop_cons hr
      rw [hr, cntSL] at h4
      have hz := cntSL_bd (innerL k) (b - n) 0
      have hz2 := manyL_mem hm
      rw [cntS_eq] at h4
      have hbd := cntSL_bd (l.drop (i + 1)) b (n + (1 + cntSL (innerL k) (b - n) 0))
      have hbd2 := cntSL_bd l b 0
      rw [hd] at hbd
      have hlk := len_manyL (innerL k)
      repeat' (first | refine awp_seq ?_ | refine awp_block ?_ | refine awp_scope ?_ | ((first | refine awp_region_k fun Kn Kp hn hp => ?_ | (show AWE _ _ _ _ _ _ _ _ _; first | refine awe_intro (inner_run k _ (by omega)) ?_ | refine awe_intro (ihN (innerL k) (by omega) (by omega) _ _ (by omega) (by omega)) ?_)) <;> (simp only [go_sem, Nat.reduceAdd, Nat.reduceSub, Nat.reduceMul, Nat.reduceLeDiff, Nat.reduceLT, Nat.reduceEqDiff, Int.reduceToNat, Int.reduceAdd, Int.reduceMul, Int.reduceSub, Int.reduceLT, Int.reduceLE, Int.reduceEq, Int.reduceNeg, Int.reduceBEq, Int.reduceBNe, ↓reduceIte, reduceCtorEq, hlt, hk, encS_eq] <;> try simp (disch := omega) only [wrap_of])) | (refine hn _ _ ?_; clear hn hp Kn Kp) | (refine hp _ _ _ ?_; clear hn hp Kn Kp) | (refine awp_cond rfl (fun hb => ?_) (fun hb => ?_) <;> (try simp only [decide_eq_true_eq, decide_eq_false_iff_not, Bool.not_eq_true', Bool.not_eq_false', Bool.true_eq_false, Bool.false_eq_true, beq_iff_eq, bne_iff_ne, bne_eq_false_iff_eq, beq_eq_false_iff_ne, gt_iff_lt, ge_iff_le, Int.reduceEq, Int.reduceNe, Int.reduceLT, Int.reduceLE, ne_eq, not_true_eq_false, not_false_eq_true] at hb)) | ((first | refine awg_split (fun hb => ?_) (fun hb => ?_)) <;> have hb0 := hb <;> (try simp only [decide_eq_true_eq, decide_eq_false_iff_not, Bool.not_eq_true', Bool.not_eq_false', Bool.true_eq_false, Bool.false_eq_true, beq_iff_eq, bne_iff_ne, bne_eq_false_iff_eq, beq_eq_false_iff_ne, gt_iff_lt, ge_iff_le, Int.reduceEq, Int.reduceNe, Int.reduceLT, Int.reduceLE, ne_eq, not_true_eq_false, not_false_eq_true] at hb0) <;> (try simp only [beq_true, beq_false, Bool.not_eq_true', Bool.not_eq_false'] at hb) <;> (simp only [go_sem, Nat.reduceAdd, Nat.reduceSub, Nat.reduceMul, Nat.reduceLeDiff, Nat.reduceLT, Nat.reduceEqDiff, Int.reduceToNat, Int.reduceAdd, Int.reduceMul, Int.reduceSub, Int.reduceLT, Int.reduceLE, Int.reduceEq, Int.reduceNeg, Int.reduceBEq, Int.reduceBNe, ↓reduceIte, reduceCtorEq, hlt, hk, encS_eq, hb, hb0] <;> try simp (disch := omega) only [wrap_of])) | refine awp_skip ?_ | refine awp_ret ?_ | refine awp_exit ?_ | refine awp_label ?_ | refine awloop_step ?_ | fail)
      · (refine resX ?_; try exact True.intro)
        rw [if_pos hb] at h4
        rw [h4]
      · rw [if_neg hb] at h4
        refine ⟨(i + 1, n + (1 + cntSL (innerL k) (b - n) 0)), by simp only; omega, ⟨by omega, by omega, by simp only; rw [hd]; exact h4⟩, ?_⟩
        (refine dropX ?_; try exact True.intro)
        simp
end Go.Proofs.Ytiifbdkedainnaa.Y

/- Plain laws: units. -/
set_option linter.unusedVariables false
namespace Go.Proofs.Ytiifbdkedainnaa.AL

structure Un where
  p : Int
  b : Int
  t : Int
  deriving DecidableEq
abbrev cU (u : Un) : List PV := [.i u.p, .i u.b, .i u.t]

def ofK (k : Int) : Option Un :=
  if k = 0 then some ⟨0, 0, 0⟩ else if k = 1 then some ⟨1, 0, 0⟩ else if k = 2 then some ⟨0, 1, 0⟩ else if k = 3 then some ⟨0, 0, 1⟩ else if k = 4 then some ⟨0, 1, -1⟩ else none
def Un.ok (u : Un) : Prop := -4 ≤ u.p ∧ u.p ≤ 4 ∧ -4 ≤ u.b ∧ u.b ≤ 4 ∧ -4 ≤ u.t ∧ u.t ≤ 4
instance (u : Un) : Decidable u.ok := by unfold Un.ok; infer_instance
theorem ofK_ok {k : Int} {u : Un} (h : ofK k = some u) : u.ok := by
  unfold ofK at h
  unfold Un.ok
  repeat' split at h
  all_goals first
    | (simp only [Option.some.injEq] at h; subst h; simp only; omega)
    | cases h
theorem ofK_range {k : Int} : (ofK k).isSome = true ↔ 0 ≤ k ∧ k ≤ 4 := by
  unfold ofK
  repeat' split
  all_goals simp
  all_goals omega
def Un.add (a b : Un) (s : Int) : Un := ⟨a.p + s * b.p, a.b + s * b.b, a.t + s * b.t⟩
def comb (op : Int) (a b : Un) : Except Int Un :=
  if op = 6 then (if (a.add b 1).ok then .ok (a.add b 1) else .error 13)
  else if op = 7 ∨ op = 8 then (if (a.add b (-1)).ok then .ok (a.add b (-1)) else .error 13)
  else if a = b then .ok a else .error 13
def leafS (vs : List Un) (op n u : Int) : Except Int Un :=
  if op = 1 then (if 0 ≤ n ∧ n ≤ 1000000000 then (match ofK u with | some k => .ok k | none => .error 1) else .error 1)
  else if op = 2 then (if 0 ≤ n then (match vs[n.toNat]? with | some k => .ok k | none => .error 1) else .error 1)
  else if op = 3 then (if n = 0 ∨ n = 3 then .ok ⟨1, 0, 0⟩ else if n = 1 then .ok ⟨0, 0, 1⟩ else if n = 2 then .ok ⟨0, 1, 0⟩ else .error 1)
  else .error 1
def node (vs : List Un) (op n u : Int) (l : List Un) : Except Int Un :=
  match l with
  | [] => leafS vs op n u
  | [a, b] => if 4 ≤ op ∧ op ≤ 10 then comb op a b else .error 1
  | _ => .error 1
mutual
def inf (vs : List Un) : Ex → Except Int Un
  | .mk op n u kids => match infL vs kids with
    | .error x => .error x
    | .ok l => node vs op n u l
def infL (vs : List Un) : List Ex → Except Int (List Un)
  | [] => .ok []
  | e :: es => match inf vs e with
    | .error x => .error x
    | .ok a => match infL vs es with
      | .error x => .error x
      | .ok asx => .ok (a :: asx)
end
theorem inf_eq (vs : List Un) (e : Ex) : inf vs e = match infL vs e.kids with
    | .error x => .error x
    | .ok l => node vs e.op e.n e.unit l := by cases e; rw [inf]; rfl
def outU (t : Nat) : Except Int Un → List AObj → AOut
  | .ok u, H => .ret (.ag (cU u)) H
  | .error x, H => .pan (.sc (.iface t (.int .i64 x))) H
def pvRows (rows : List (List PV)) : List (List AV) := rows.map fun r => r.map AV.pv
theorem pvRows_len (rows : List (List PV)) : (pvRows rows).length = rows.length := by simp [pvRows]
theorem under_pvRows [GTab] {m t sz : Nat} (rows : List (List PV)) : (AObj.arr t sz (pvRows rows)).under m := by
  simp only [AObj.under, pvRows]
  intro r hr c hc
  obtain ⟨r', _, rfl⟩ := List.mem_map.1 hr
  exact under_pvs r' c hc
end Go.Proofs.Ytiifbdkedainnaa.AL
namespace Go.Proofs.Ytiifbdkedainnaa.AL
theorem leafS_ok {vs : List Un} (hvs : ∀ u ∈ vs, u.ok) {op n u : Int} {x : Un} (h : leafS vs op n u = .ok x) : x.ok := by
  unfold leafS at h
  split at h
  · split at h
    · split at h
      · rename_i k hk; simp only [Except.ok.injEq] at h; subst h; exact ofK_ok hk
      · cases h
    · cases h
  · split at h
    · split at h
      · split at h
        · rename_i k hk; simp only [Except.ok.injEq] at h; subst h; exact hvs _ (List.mem_of_getElem? hk)
        · cases h
      · cases h
    · split at h
      · repeat' split at h
        all_goals first
          | (simp only [Except.ok.injEq] at h; subst h; decide)
          | cases h
      · cases h
theorem comb_ok {op : Int} {a b x : Un} (ha : a.ok) (h : comb op a b = .ok x) : x.ok := by
  unfold comb at h
  repeat' split at h
  all_goals first
    | cases h; done
    | (simp only [Except.ok.injEq] at h; subst h; assumption)
theorem node_ok {vs : List Un} (hvs : ∀ u ∈ vs, u.ok) {op n u : Int} {l : List Un} (hl : ∀ v ∈ l, v.ok) {x : Un} (h : node vs op n u l = .ok x) : x.ok := by
  unfold node at h
  split at h
  · exact leafS_ok hvs h
  · split at h
    · exact comb_ok (hl _ (by simp)) h
    · cases h
  · cases h
theorem inf_ok (vs : List Un) (hvs : ∀ u ∈ vs, u.ok) (e : Ex) : ∀ u, inf vs e = .ok u → u.ok := by
  induction e using Ex.ind with
  | h e ih =>
    intro u hu
    rw [inf_eq] at hu
    have key : ∀ (l : List Ex), (∀ k ∈ l, ∀ u, inf vs k = .ok u → u.ok) → ∀ r, infL vs l = .ok r → ∀ v ∈ r, v.ok := by
      intro l
      induction l with
      | nil => intro _ r hr v hv; simp only [infL, Except.ok.injEq] at hr; subst hr; cases hv
      | cons x xs ihl =>
        intro hk r hr v hv
        simp only [infL] at hr
        split at hr
        · cases hr
        · rename_i a ha
          split at hr
          · cases hr
          · rename_i asx has
            simp only [Except.ok.injEq] at hr
            subst hr
            rcases List.mem_cons.1 hv with rfl | hv
            · exact hk x (by simp) _ ha
            · exact ihl (fun k hk' => hk k (by simp [hk'])) _ has v hv
    split at hu
    · cases hu
    · rename_i l hl
      exact node_ok hvs (key _ ih l hl) hu
end Go.Proofs.Ytiifbdkedainnaa.AL
namespace Go.Proofs.Ytiifbdkedainnaa.AL
def ksL : List Vr → Option (List Un)
  | [] => some []
  | v :: vs => match ofK v.unit with
    | none => none
    | some u => match ksL vs with
      | none => none
      | some us => some (u :: us)
theorem ksL_ok : ∀ {l : List Vr} {us : List Un}, ksL l = some us → ∀ u ∈ us, u.ok
  | [], us, h, u, hu => by simp only [ksL, Option.some.injEq] at h; subst h; cases hu
  | v :: vs, us, h, u, hu => by
    simp only [ksL] at h
    split at h
    · cases h
    · rename_i x hx
      split at h
      · cases h
      · rename_i ys hys
        simp only [Option.some.injEq] at h
        subst h
        rcases List.mem_cons.1 hu with rfl | hu
        · exact ofK_ok hx
        · exact ksL_ok hys u hu
theorem ksL_len : ∀ {l : List Vr} {us : List Un}, ksL l = some us → us.length = l.length
  | [], us, h => by simp only [ksL, Option.some.injEq] at h; subst h; rfl
  | v :: vs, us, h => by
    simp only [ksL] at h
    split at h
    · cases h
    · split at h
      · cases h
      · rename_i ys hys
        simp only [Option.some.injEq] at h
        subst h
        simp [ksL_len hys]
end Go.Proofs.Ytiifbdkedainnaa.AL

set_option linter.unusedVariables false
set_option linter.unusedSimpArgs false
namespace Go.Proofs.Ytiifbdkedainnaa.Y
open Go.Proofs.Ytiifbdkedainnaa.AL Go.Proofs Go
attribute [local irreducible] AWP AWL AWG AWR AWE AWX AWO AWSeq AWSG AWSR AWSO AWSE AWSF GoodP OGW OGR OGE OGX PGW PGR PGE Wk AWLoop AWPD AWLD

theorem eqg70 : Try.prog.eqGuardType Try.prog.depth 119 = false := by kernel_rfl
theorem eqg34 : Try.prog.eqGuardType Try.prog.depth 107 = false := by kernel_rfl
theorem eqs34 : eqStruct Try.prog 107 = true := by kernel_rfl
theorem eqU (a b : Un) : (a.p == b.p && (a.b == b.b && a.t == b.t)) = decide (a = b) := by
  obtain ⟨a1, a2, a3⟩ := a
  obtain ⟨b1, b2, b3⟩ := b
  simp only [Un.mk.injEq, Bool.decide_and]
  rfl

/-- The answer of 'of'. -/
def ofAns (k : Int) : AV := match ofK k with
  | some u => .tup [.ag (cU u), .b true]
  | none => .tup [.ag [.i 0, .i 0, .i 0], .b false]
theorem of_run (n : Int) (H0 : List AObj) : ARun Try.prog 72 [.i n] H0 (.ret (ofAns n) H0) := by
  by_cases h : 0 ≤ n ∧ n ≤ 4
  · have hc : n = 0 ∨ n = 1 ∨ n = 2 ∨ n = 3 ∨ n = 4 := by omega
    rcases hc with rfl | rfl | rfl | rfl | rfl
    all_goals
      clear h
      (refine ARun.intro Try.func72 rfl Try.call72 Try.ntmps72 Try.results72 ?_; simp only [List.length_cons, List.length_nil, List.length_map, Nat.reduceAdd, Nat.reduceSub, List.replicate_succ, List.replicate_zero, List.cons_append, List.nil_append])
      repeat' (first | refine awp_seq ?_ | refine awp_block ?_ | refine awp_scope ?_ | ((first | refine awp_region_k fun Kn Kp hn hp => ?_ | refine oge_intro (by assumption) ?_) <;> (simp only [go_sem, Nat.reduceAdd, Nat.reduceSub, Nat.reduceMul, Nat.reduceLeDiff, Nat.reduceLT, Nat.reduceEqDiff, Int.reduceToNat, Int.reduceAdd, Int.reduceMul, Int.reduceSub, Int.reduceLT, Int.reduceLE, Int.reduceEq, Int.reduceNeg, Int.reduceBEq, Int.reduceBNe, ↓reduceIte, reduceCtorEq] <;> try simp (disch := omega) only [wrap_of])) | (refine hn _ _ ?_; clear hn hp Kn Kp) | (refine hp _ _ _ ?_; clear hn hp Kn Kp) | (refine awp_cond rfl (fun hb => ?_) (fun hb => ?_) <;> (try simp only [decide_eq_true_eq, decide_eq_false_iff_not, Bool.not_eq_true', Bool.not_eq_false', Bool.true_eq_false, Bool.false_eq_true, beq_iff_eq, bne_iff_ne, bne_eq_false_iff_eq, beq_eq_false_iff_ne, gt_iff_lt, ge_iff_le, Int.reduceEq, Int.reduceNe, Int.reduceLT, Int.reduceLE, ne_eq, not_true_eq_false, not_false_eq_true] at hb)) | ((first | refine awg_split (fun hb => ?_) (fun hb => ?_) | refine awsg_split (fun hb => ?_) (fun hb => ?_)) <;> have hb0 := hb <;> (try simp only [decide_eq_true_eq, decide_eq_false_iff_not, Bool.not_eq_true', Bool.not_eq_false', Bool.true_eq_false, Bool.false_eq_true, beq_iff_eq, bne_iff_ne, bne_eq_false_iff_eq, beq_eq_false_iff_ne, gt_iff_lt, ge_iff_le, Int.reduceEq, Int.reduceNe, Int.reduceLT, Int.reduceLE, ne_eq, not_true_eq_false, not_false_eq_true] at hb0) <;> (try simp only [beq_true, beq_false, Bool.not_eq_true', Bool.not_eq_false'] at hb) <;> (simp only [go_sem, Nat.reduceAdd, Nat.reduceSub, Nat.reduceMul, Nat.reduceLeDiff, Nat.reduceLT, Nat.reduceEqDiff, Int.reduceToNat, Int.reduceAdd, Int.reduceMul, Int.reduceSub, Int.reduceLT, Int.reduceLE, Int.reduceEq, Int.reduceNeg, Int.reduceBEq, Int.reduceBNe, ↓reduceIte, reduceCtorEq, hb, hb0] <;> try simp (disch := omega) only [wrap_of])) | (refine And.intro ?_ ?_) | refine awp_skip ?_ | refine awp_ret ?_ | refine awp_exit ?_ | refine awp_label ?_ | refine awloop_step ?_ | fail)
      ((try simp only [go_sem, Nat.reduceAdd, Nat.reduceSub, Nat.reduceMul, Nat.reduceLeDiff, Nat.reduceLT, Nat.reduceEqDiff, Int.reduceToNat, Int.reduceAdd, Int.reduceMul, Int.reduceSub, Int.reduceLT, Int.reduceLE, Int.reduceEq, Int.reduceNeg, Int.reduceBEq, Int.reduceBNe, ↓reduceIte, reduceCtorEq]); (first | refine ⟨_, rfl, _, rfl, Fin.pure0 0 ?_⟩ | refine ⟨_, rfl, _, rfl, Fin.pure 1 ?_⟩); simp only [AV.low, List.map_cons, List.map_nil, aOne, aev, List.getElem?_cons_zero, List.getElem?_cons_succ, Option.getD_some, List.length_append, List.length_cons, List.length_nil, Nat.lt_irrefl, if_false]; try rfl)
      all_goals simp [AV.low, ofAns, ofK]
  · (refine ARun.intro Try.func72 rfl Try.call72 Try.ntmps72 Try.results72 ?_; simp only [List.length_cons, List.length_nil, List.length_map, Nat.reduceAdd, Nat.reduceSub, List.replicate_succ, List.replicate_zero, List.cons_append, List.nil_append])
    have hn : ofK n = none := by
      cases hx : ofK n with
      | none => rfl
      | some u => exact absurd (ofK_range.1 (by rw [hx]; rfl)) h
    repeat' (first | refine awp_seq ?_ | refine awp_block ?_ | refine awp_scope ?_ | ((first | refine awp_region_k fun Kn Kp hn hp => ?_ | refine oge_intro (by assumption) ?_) <;> (simp only [go_sem, Nat.reduceAdd, Nat.reduceSub, Nat.reduceMul, Nat.reduceLeDiff, Nat.reduceLT, Nat.reduceEqDiff, Int.reduceToNat, Int.reduceAdd, Int.reduceMul, Int.reduceSub, Int.reduceLT, Int.reduceLE, Int.reduceEq, Int.reduceNeg, Int.reduceBEq, Int.reduceBNe, ↓reduceIte, reduceCtorEq] <;> try simp (disch := omega) only [wrap_of])) | (refine hn _ _ ?_; clear hn hp Kn Kp) | (refine hp _ _ _ ?_; clear hn hp Kn Kp) | (refine awp_cond rfl (fun hb => ?_) (fun hb => ?_) <;> (try simp only [decide_eq_true_eq, decide_eq_false_iff_not, Bool.not_eq_true', Bool.not_eq_false', Bool.true_eq_false, Bool.false_eq_true, beq_iff_eq, bne_iff_ne, bne_eq_false_iff_eq, beq_eq_false_iff_ne, gt_iff_lt, ge_iff_le, Int.reduceEq, Int.reduceNe, Int.reduceLT, Int.reduceLE, ne_eq, not_true_eq_false, not_false_eq_true] at hb)) | ((first | refine awg_split (fun hb => ?_) (fun hb => ?_) | refine awsg_split (fun hb => ?_) (fun hb => ?_)) <;> have hb0 := hb <;> (try simp only [decide_eq_true_eq, decide_eq_false_iff_not, Bool.not_eq_true', Bool.not_eq_false', Bool.true_eq_false, Bool.false_eq_true, beq_iff_eq, bne_iff_ne, bne_eq_false_iff_eq, beq_eq_false_iff_ne, gt_iff_lt, ge_iff_le, Int.reduceEq, Int.reduceNe, Int.reduceLT, Int.reduceLE, ne_eq, not_true_eq_false, not_false_eq_true] at hb0) <;> (try simp only [beq_true, beq_false, Bool.not_eq_true', Bool.not_eq_false'] at hb) <;> (simp only [go_sem, Nat.reduceAdd, Nat.reduceSub, Nat.reduceMul, Nat.reduceLeDiff, Nat.reduceLT, Nat.reduceEqDiff, Int.reduceToNat, Int.reduceAdd, Int.reduceMul, Int.reduceSub, Int.reduceLT, Int.reduceLE, Int.reduceEq, Int.reduceNeg, Int.reduceBEq, Int.reduceBNe, ↓reduceIte, reduceCtorEq, hb, hb0] <;> try simp (disch := omega) only [wrap_of])) | (refine And.intro ?_ ?_) | refine awp_skip ?_ | refine awp_ret ?_ | refine awp_exit ?_ | refine awp_label ?_ | refine awloop_step ?_ | fail)
    all_goals first
      | omega
      | (((try simp only [go_sem, Nat.reduceAdd, Nat.reduceSub, Nat.reduceMul, Nat.reduceLeDiff, Nat.reduceLT, Nat.reduceEqDiff, Int.reduceToNat, Int.reduceAdd, Int.reduceMul, Int.reduceSub, Int.reduceLT, Int.reduceLE, Int.reduceEq, Int.reduceNeg, Int.reduceBEq, Int.reduceBNe, ↓reduceIte, reduceCtorEq]); (first | refine ⟨_, rfl, _, rfl, Fin.pure0 0 ?_⟩ | refine ⟨_, rfl, _, rfl, Fin.pure 1 ?_⟩); simp only [AV.low, List.map_cons, List.map_nil, aOne, aev, List.getElem?_cons_zero, List.getElem?_cons_succ, Option.getD_some, List.length_append, List.length_cons, List.length_nil, Nat.lt_irrefl, if_false]; try rfl)
         all_goals simp [AV.low, ofAns, hn])
theorem must_run (x : Int) (H0 : List AObj) : ARun Try.prog 74 [.b true, .i x] H0 (.ret (.tup []) H0) := by
  (refine ARun.intro Try.func74 rfl Try.call74 Try.ntmps74 Try.results74 ?_; simp only [List.length_cons, List.length_nil, List.length_map, Nat.reduceAdd, Nat.reduceSub, List.replicate_succ, List.replicate_zero, List.cons_append, List.nil_append])
  repeat' (first | refine awp_seq ?_ | refine awp_block ?_ | refine awp_scope ?_ | ((first | refine awp_region_k fun Kn Kp hn hp => ?_ | refine oge_intro (by assumption) ?_) <;> (simp only [go_sem, Nat.reduceAdd, Nat.reduceSub, Nat.reduceMul, Nat.reduceLeDiff, Nat.reduceLT, Nat.reduceEqDiff, Int.reduceToNat, Int.reduceAdd, Int.reduceMul, Int.reduceSub, Int.reduceLT, Int.reduceLE, Int.reduceEq, Int.reduceNeg, Int.reduceBEq, Int.reduceBNe, ↓reduceIte, reduceCtorEq] <;> try simp (disch := omega) only [wrap_of])) | (refine hn _ _ ?_; clear hn hp Kn Kp) | (refine hp _ _ _ ?_; clear hn hp Kn Kp) | (refine awp_cond rfl (fun hb => ?_) (fun hb => ?_) <;> (try simp only [decide_eq_true_eq, decide_eq_false_iff_not, Bool.not_eq_true', Bool.not_eq_false', Bool.true_eq_false, Bool.false_eq_true, beq_iff_eq, bne_iff_ne, bne_eq_false_iff_eq, beq_eq_false_iff_ne, gt_iff_lt, ge_iff_le, Int.reduceEq, Int.reduceNe, Int.reduceLT, Int.reduceLE, ne_eq, not_true_eq_false, not_false_eq_true] at hb)) | ((first | refine awg_split (fun hb => ?_) (fun hb => ?_) | refine awsg_split (fun hb => ?_) (fun hb => ?_)) <;> have hb0 := hb <;> (try simp only [decide_eq_true_eq, decide_eq_false_iff_not, Bool.not_eq_true', Bool.not_eq_false', Bool.true_eq_false, Bool.false_eq_true, beq_iff_eq, bne_iff_ne, bne_eq_false_iff_eq, beq_eq_false_iff_ne, gt_iff_lt, ge_iff_le, Int.reduceEq, Int.reduceNe, Int.reduceLT, Int.reduceLE, ne_eq, not_true_eq_false, not_false_eq_true] at hb0) <;> (try simp only [beq_true, beq_false, Bool.not_eq_true', Bool.not_eq_false'] at hb) <;> (simp only [go_sem, Nat.reduceAdd, Nat.reduceSub, Nat.reduceMul, Nat.reduceLeDiff, Nat.reduceLT, Nat.reduceEqDiff, Int.reduceToNat, Int.reduceAdd, Int.reduceMul, Int.reduceSub, Int.reduceLT, Int.reduceLE, Int.reduceEq, Int.reduceNeg, Int.reduceBEq, Int.reduceBNe, ↓reduceIte, reduceCtorEq, hb, hb0] <;> try simp (disch := omega) only [wrap_of])) | (refine And.intro ?_ ?_) | refine awp_skip ?_ | refine awp_ret ?_ | refine awp_exit ?_ | refine awp_label ?_ | refine awloop_step ?_ | fail)
  ((try simp only [go_sem, Nat.reduceAdd, Nat.reduceSub, Nat.reduceMul, Nat.reduceLeDiff, Nat.reduceLT, Nat.reduceEqDiff, Int.reduceToNat, Int.reduceAdd, Int.reduceMul, Int.reduceSub, Int.reduceLT, Int.reduceLE, Int.reduceEq, Int.reduceNeg, Int.reduceBEq, Int.reduceBNe, ↓reduceIte, reduceCtorEq]); (first | refine ⟨_, rfl, _, rfl, Fin.pure0 0 ?_⟩ | refine ⟨_, rfl, _, rfl, Fin.pure 1 ?_⟩); simp only [AV.low, List.map_cons, List.map_nil, aOne, aev, List.getElem?_cons_zero, List.getElem?_cons_succ, Option.getD_some, List.length_append, List.length_cons, List.length_nil, Nat.lt_irrefl, if_false]; try rfl)
theorem must_pan (x : Int) (H0 : List AObj) : ARun Try.prog 74 [.b false, .i x] H0 (.pan (.sc (.iface 34 (.int .i64 x))) H0) := by
  (refine ARun.intro Try.func74 rfl Try.call74 Try.ntmps74 Try.results74 ?_; simp only [List.length_cons, List.length_nil, List.length_map, Nat.reduceAdd, Nat.reduceSub, List.replicate_succ, List.replicate_zero, List.cons_append, List.nil_append])
  repeat' (first | refine awp_seq ?_ | refine awp_block ?_ | refine awp_scope ?_ | ((first | refine awp_region_k fun Kn Kp hn hp => ?_ | refine oge_intro (by assumption) ?_) <;> (simp only [go_sem, Nat.reduceAdd, Nat.reduceSub, Nat.reduceMul, Nat.reduceLeDiff, Nat.reduceLT, Nat.reduceEqDiff, Int.reduceToNat, Int.reduceAdd, Int.reduceMul, Int.reduceSub, Int.reduceLT, Int.reduceLE, Int.reduceEq, Int.reduceNeg, Int.reduceBEq, Int.reduceBNe, ↓reduceIte, reduceCtorEq] <;> try simp (disch := omega) only [wrap_of])) | (refine hn _ _ ?_; clear hn hp Kn Kp) | (refine hp _ _ _ ?_; clear hn hp Kn Kp) | (refine awp_cond rfl (fun hb => ?_) (fun hb => ?_) <;> (try simp only [decide_eq_true_eq, decide_eq_false_iff_not, Bool.not_eq_true', Bool.not_eq_false', Bool.true_eq_false, Bool.false_eq_true, beq_iff_eq, bne_iff_ne, bne_eq_false_iff_eq, beq_eq_false_iff_ne, gt_iff_lt, ge_iff_le, Int.reduceEq, Int.reduceNe, Int.reduceLT, Int.reduceLE, ne_eq, not_true_eq_false, not_false_eq_true] at hb)) | ((first | refine awg_split (fun hb => ?_) (fun hb => ?_) | refine awsg_split (fun hb => ?_) (fun hb => ?_)) <;> have hb0 := hb <;> (try simp only [decide_eq_true_eq, decide_eq_false_iff_not, Bool.not_eq_true', Bool.not_eq_false', Bool.true_eq_false, Bool.false_eq_true, beq_iff_eq, bne_iff_ne, bne_eq_false_iff_eq, beq_eq_false_iff_ne, gt_iff_lt, ge_iff_le, Int.reduceEq, Int.reduceNe, Int.reduceLT, Int.reduceLE, ne_eq, not_true_eq_false, not_false_eq_true] at hb0) <;> (try simp only [beq_true, beq_false, Bool.not_eq_true', Bool.not_eq_false'] at hb) <;> (simp only [go_sem, Nat.reduceAdd, Nat.reduceSub, Nat.reduceMul, Nat.reduceLeDiff, Nat.reduceLT, Nat.reduceEqDiff, Int.reduceToNat, Int.reduceAdd, Int.reduceMul, Int.reduceSub, Int.reduceLT, Int.reduceLE, Int.reduceEq, Int.reduceNeg, Int.reduceBEq, Int.reduceBNe, ↓reduceIte, reduceCtorEq, hb, hb0] <;> try simp (disch := omega) only [wrap_of])) | (refine And.intro ?_ ?_) | refine awp_skip ?_ | refine awp_ret ?_ | refine awp_exit ?_ | refine awp_label ?_ | refine awloop_step ?_ | fail)
  ((first | refine ⟨_, rfl, Fin.pure0 0 ?_⟩ | refine ⟨_, rfl, Fin.pure 1 ?_⟩); simp only [AV.low]; try rfl)
theorem fits_run (n : Int) (H0 : List AObj) : ARun Try.prog 98 [.i n] H0 (.ret (.b (decide (-4 ≤ n ∧ n ≤ 4))) H0) := by
  (refine ARun.intro Try.func98 rfl Try.call98 Try.ntmps98 Try.results98 ?_; simp only [List.length_cons, List.length_nil, List.length_map, Nat.reduceAdd, Nat.reduceSub, List.replicate_succ, List.replicate_zero, List.cons_append, List.nil_append])
  repeat' (first | refine awp_seq ?_ | refine awp_block ?_ | refine awp_scope ?_ | ((first | refine awp_region_k fun Kn Kp hn hp => ?_ | refine oge_intro (by assumption) ?_) <;> (simp only [go_sem, Nat.reduceAdd, Nat.reduceSub, Nat.reduceMul, Nat.reduceLeDiff, Nat.reduceLT, Nat.reduceEqDiff, Int.reduceToNat, Int.reduceAdd, Int.reduceMul, Int.reduceSub, Int.reduceLT, Int.reduceLE, Int.reduceEq, Int.reduceNeg, Int.reduceBEq, Int.reduceBNe, ↓reduceIte, reduceCtorEq] <;> try simp (disch := omega) only [wrap_of])) | (refine hn _ _ ?_; clear hn hp Kn Kp) | (refine hp _ _ _ ?_; clear hn hp Kn Kp) | (refine awp_cond rfl (fun hb => ?_) (fun hb => ?_) <;> (try simp only [decide_eq_true_eq, decide_eq_false_iff_not, Bool.not_eq_true', Bool.not_eq_false', Bool.true_eq_false, Bool.false_eq_true, beq_iff_eq, bne_iff_ne, bne_eq_false_iff_eq, beq_eq_false_iff_ne, gt_iff_lt, ge_iff_le, Int.reduceEq, Int.reduceNe, Int.reduceLT, Int.reduceLE, ne_eq, not_true_eq_false, not_false_eq_true] at hb)) | ((first | refine awg_split (fun hb => ?_) (fun hb => ?_) | refine awsg_split (fun hb => ?_) (fun hb => ?_)) <;> have hb0 := hb <;> (try simp only [decide_eq_true_eq, decide_eq_false_iff_not, Bool.not_eq_true', Bool.not_eq_false', Bool.true_eq_false, Bool.false_eq_true, beq_iff_eq, bne_iff_ne, bne_eq_false_iff_eq, beq_eq_false_iff_ne, gt_iff_lt, ge_iff_le, Int.reduceEq, Int.reduceNe, Int.reduceLT, Int.reduceLE, ne_eq, not_true_eq_false, not_false_eq_true] at hb0) <;> (try simp only [beq_true, beq_false, Bool.not_eq_true', Bool.not_eq_false'] at hb) <;> (simp only [go_sem, Nat.reduceAdd, Nat.reduceSub, Nat.reduceMul, Nat.reduceLeDiff, Nat.reduceLT, Nat.reduceEqDiff, Int.reduceToNat, Int.reduceAdd, Int.reduceMul, Int.reduceSub, Int.reduceLT, Int.reduceLE, Int.reduceEq, Int.reduceNeg, Int.reduceBEq, Int.reduceBNe, ↓reduceIte, reduceCtorEq, hb, hb0] <;> try simp (disch := omega) only [wrap_of])) | (refine And.intro ?_ ?_) | refine awp_skip ?_ | refine awp_ret ?_ | refine awp_exit ?_ | refine awp_label ?_ | refine awloop_step ?_ | fail)
  all_goals
    ((try simp only [go_sem, Nat.reduceAdd, Nat.reduceSub, Nat.reduceMul, Nat.reduceLeDiff, Nat.reduceLT, Nat.reduceEqDiff, Int.reduceToNat, Int.reduceAdd, Int.reduceMul, Int.reduceSub, Int.reduceLT, Int.reduceLE, Int.reduceEq, Int.reduceNeg, Int.reduceBEq, Int.reduceBNe, ↓reduceIte, reduceCtorEq]); (first | refine ⟨_, rfl, _, rfl, Fin.pure0 0 ?_⟩ | refine ⟨_, rfl, _, rfl, Fin.pure 1 ?_⟩); simp only [AV.low, List.map_cons, List.map_nil, aOne, aev, List.getElem?_cons_zero, List.getElem?_cons_succ, Option.getD_some, List.length_append, List.length_cons, List.length_nil, Nat.lt_irrefl, if_false]; try rfl)
    all_goals simp [hb]
end Go.Proofs.Ytiifbdkedainnaa.Y

set_option linter.unusedVariables false
set_option linter.unusedSimpArgs false
namespace Go.Proofs.Ytiifbdkedainnaa.Y
open Go.Proofs.Ytiifbdkedainnaa.AL Go.Proofs Go
attribute [local irreducible] AWP AWL AWG AWR AWE AWX AWO AWSeq AWSG AWSR AWSO AWSE AWSF GoodP OGW OGR OGE OGX PGW PGR PGE Wk AWLoop AWPD AWLD

theorem must_c (b : Bool) (x : Int) (H0 : List AObj) : ARun Try.prog 74 [.b b, .i x] H0 (cond b (.ret (.tup []) H0) (.pan (.pv (.sc (.iface 34 (.int .i64 x)))) H0)) := by
  cases b
  · exact must_pan x H0
  · exact must_run x H0

def outC (u : Un) (H : List AObj) : AOut := if u.ok then .ret (.ag (cU u)) H else .pan (.sc (.iface 34 (.int .i64 13))) H
theorem plus_run (a b : Un) (s : Int) (ha : a.ok) (hb0 : b.ok) (hs : s = 1 ∨ s = -1) (H0 : List AObj) : ARun Try.prog 96 [.ag (cU a), .ag (cU b), .i s] H0 (outC (a.add b s) H0) := by
  obtain ⟨a1, a2, a3, a4, a5, a6⟩ := ha
  obtain ⟨b1, b2, b3, b4, b5, b6⟩ := hb0
  rcases hs with rfl | rfl
  all_goals
    (refine ARun.intro Try.func96 rfl Try.call96 Try.ntmps96 Try.results96 ?_; simp only [List.length_cons, List.length_nil, List.length_map, Nat.reduceAdd, Nat.reduceSub, List.replicate_succ, List.replicate_zero, List.cons_append, List.nil_append])
    repeat' (first | refine awp_seq ?_ | refine awp_block ?_ | refine awp_scope ?_ | ((first | refine awp_region_k fun Kn Kp hn hp => ?_ | show AWP _ _ (Code.region 4 _ true) _ _ _; refine awp_drawn_k (id := 4) [10] [] [.win [0], .win [0], .win [0], .win [0], .win [0], .win [0], .win [0], .win [0], .win [0], .win [0], .eff 0] 1 rfl (by as_aux_lemma => kernel_rfl) fun Kn Kp hn hp => ?_ | refine oge_intro (by assumption) ?_) <;> (simp only [go_sem, Nat.reduceAdd, Nat.reduceSub, Nat.reduceMul, Nat.reduceLeDiff, Nat.reduceLT, Nat.reduceEqDiff, Int.reduceToNat, Int.reduceAdd, Int.reduceMul, Int.reduceSub, Int.reduceLT, Int.reduceLE, Int.reduceEq, Int.reduceNeg, Int.reduceBEq, Int.reduceBNe, ↓reduceIte, reduceCtorEq] <;> try simp (disch := omega) only [wrap_of])) | (refine hn _ _ ?_; clear hn hp Kn Kp) | (refine hp _ _ _ ?_; clear hn hp Kn Kp) | (refine awp_cond rfl (fun hb => ?_) (fun hb => ?_) <;> (try simp only [decide_eq_true_eq, decide_eq_false_iff_not, Bool.not_eq_true', Bool.not_eq_false', Bool.true_eq_false, Bool.false_eq_true, beq_iff_eq, bne_iff_ne, bne_eq_false_iff_eq, beq_eq_false_iff_ne, gt_iff_lt, ge_iff_le, Int.reduceEq, Int.reduceNe, Int.reduceLT, Int.reduceLE, ne_eq, not_true_eq_false, not_false_eq_true] at hb)) | ((first | refine awg_split (fun hb => ?_) (fun hb => ?_) | refine awsg_split (fun hb => ?_) (fun hb => ?_)) <;> have hb0 := hb <;> (try simp only [decide_eq_true_eq, decide_eq_false_iff_not, Bool.not_eq_true', Bool.not_eq_false', Bool.true_eq_false, Bool.false_eq_true, beq_iff_eq, bne_iff_ne, bne_eq_false_iff_eq, beq_eq_false_iff_ne, gt_iff_lt, ge_iff_le, Int.reduceEq, Int.reduceNe, Int.reduceLT, Int.reduceLE, ne_eq, not_true_eq_false, not_false_eq_true] at hb0) <;> (try simp only [beq_true, beq_false, Bool.not_eq_true', Bool.not_eq_false'] at hb) <;> (simp only [go_sem, Nat.reduceAdd, Nat.reduceSub, Nat.reduceMul, Nat.reduceLeDiff, Nat.reduceLT, Nat.reduceEqDiff, Int.reduceToNat, Int.reduceAdd, Int.reduceMul, Int.reduceSub, Int.reduceLT, Int.reduceLE, Int.reduceEq, Int.reduceNeg, Int.reduceBEq, Int.reduceBNe, ↓reduceIte, reduceCtorEq, hb, hb0] <;> try simp (disch := omega) only [wrap_of])) | (refine And.intro ?_ ?_) | refine awp_skip ?_ | refine awp_ret ?_ | refine awp_exit ?_ | refine awp_label ?_ | refine awloop_step ?_ | fail)
    refine awp_loop 4 ?_
    repeat' (first | refine awp_seq ?_ | refine awp_block ?_ | refine awp_scope ?_ | ((first | refine awp_region_k fun Kn Kp hn hp => ?_ | show AWP _ _ (Code.region 4 _ true) _ _ _; refine awp_drawn_k (id := 4) [10] [] [.win [0], .win [0], .win [0], .win [0], .win [0], .win [0], .win [0], .win [0], .win [0], .win [0], .eff 0] 1 rfl (by as_aux_lemma => kernel_rfl) fun Kn Kp hn hp => ?_ | refine oge_intro (by assumption) ?_) <;> (simp only [go_sem, Nat.reduceAdd, Nat.reduceSub, Nat.reduceMul, Nat.reduceLeDiff, Nat.reduceLT, Nat.reduceEqDiff, Int.reduceToNat, Int.reduceAdd, Int.reduceMul, Int.reduceSub, Int.reduceLT, Int.reduceLE, Int.reduceEq, Int.reduceNeg, Int.reduceBEq, Int.reduceBNe, ↓reduceIte, reduceCtorEq] <;> try simp (disch := omega) only [wrap_of])) | (refine hn _ _ ?_; clear hn hp Kn Kp) | (refine hp _ _ _ ?_; clear hn hp Kn Kp) | (refine awp_cond rfl (fun hb => ?_) (fun hb => ?_) <;> (try simp only [decide_eq_true_eq, decide_eq_false_iff_not, Bool.not_eq_true', Bool.not_eq_false', Bool.true_eq_false, Bool.false_eq_true, beq_iff_eq, bne_iff_ne, bne_eq_false_iff_eq, beq_eq_false_iff_ne, gt_iff_lt, ge_iff_le, Int.reduceEq, Int.reduceNe, Int.reduceLT, Int.reduceLE, ne_eq, not_true_eq_false, not_false_eq_true] at hb)) | ((first | refine awg_split (fun hb => ?_) (fun hb => ?_) | refine awsg_split (fun hb => ?_) (fun hb => ?_) | refine awe_cases (must_c _ _ _) (fun hb => ?_) (fun hb => ?_)) <;> have hb0 := hb <;> (try simp only [decide_eq_true_eq, decide_eq_false_iff_not, Bool.not_eq_true', Bool.not_eq_false', Bool.true_eq_false, Bool.false_eq_true, beq_iff_eq, bne_iff_ne, bne_eq_false_iff_eq, beq_eq_false_iff_ne, gt_iff_lt, ge_iff_le, Int.reduceEq, Int.reduceNe, Int.reduceLT, Int.reduceLE, ne_eq, not_true_eq_false, not_false_eq_true] at hb0) <;> (try simp only [beq_true, beq_false, Bool.not_eq_true', Bool.not_eq_false'] at hb) <;> (simp only [go_sem, Nat.reduceAdd, Nat.reduceSub, Nat.reduceMul, Nat.reduceLeDiff, Nat.reduceLT, Nat.reduceEqDiff, Int.reduceToNat, Int.reduceAdd, Int.reduceMul, Int.reduceSub, Int.reduceLT, Int.reduceLE, Int.reduceEq, Int.reduceNeg, Int.reduceBEq, Int.reduceBNe, ↓reduceIte, reduceCtorEq, hb, hb0] <;> try simp (disch := omega) only [wrap_of])) | (refine And.intro ?_ ?_) | refine awp_skip ?_ | refine awp_ret ?_ | refine awp_exit ?_ | refine awp_label ?_ | refine awloop_step ?_ | fail)
    all_goals first
      | (rw [outC, if_pos (by simp only [Un.ok, Un.add]; omega)]
         ((try simp only [go_sem, Nat.reduceAdd, Nat.reduceSub, Nat.reduceMul, Nat.reduceLeDiff, Nat.reduceLT, Nat.reduceEqDiff, Int.reduceToNat, Int.reduceAdd, Int.reduceMul, Int.reduceSub, Int.reduceLT, Int.reduceLE, Int.reduceEq, Int.reduceNeg, Int.reduceBEq, Int.reduceBNe, ↓reduceIte, reduceCtorEq]); (first | refine ⟨_, rfl, _, rfl, Fin.pure0 0 ?_⟩ | refine ⟨_, rfl, _, rfl, Fin.pure 1 ?_⟩); simp only [AV.low, List.map_cons, List.map_nil, aOne, aev, List.getElem?_cons_zero, List.getElem?_cons_succ, Option.getD_some, List.length_append, List.length_cons, List.length_nil, Nat.lt_irrefl, if_false]; try rfl)
         all_goals simp [Un.add, cU])
      | (rw [outC, if_neg (by simp only [Un.ok, Un.add]; omega)]
         ((first | refine ⟨_, rfl, Fin.pure0 0 ?_⟩ | refine ⟨_, rfl, Fin.pure 1 ?_⟩); simp only [AV.low]; try rfl))
end Go.Proofs.Ytiifbdkedainnaa.Y

set_option maxHeartbeats 4000000
set_option linter.unusedVariables false
set_option linter.unusedSimpArgs false
namespace Go.Proofs.Ytiifbdkedainnaa.Y
open Go.Proofs.Ytiifbdkedainnaa.AL Go.Proofs Go
attribute [local irreducible] AWP AWL AWG AWR AWE AWX AWO AWSeq AWSG AWSR AWSO AWSE AWSF GoodP OGW OGR OGE OGX PGW PGR PGE Wk AWLoop AWPD AWLD
theorem dr95_7_U6 : Drawn Try.prog 7 (regOps 7 ((Try.f95.body).getD .skip)) [13] [] [.win [0], .win [0], .win [0], .win [0], .win [0], .win [0], .win [0], .win [0], .win [0], .win [0], .win [0], .win [0], .win [0], .eff 0] 1 [] := ⟨rfl, by as_aux_lemma => kernel_rfl⟩
theorem dr95_8_U6 : Drawn Try.prog 8 (regOps 8 ((Try.f95.body).getD .skip)) [8] [] [.win [0], .win [0], .win [0], .win [0], .win [0], .win [0], .win [0], .win [0], .eff 0] 1 [] := ⟨rfl, by as_aux_lemma => kernel_rfl⟩

abbrev chk (vs : List Un) : AV := .rp [.rs 3 (vs.map fun u => cU u)]
theorem leaf_run (vs : List Un) (e : Ex) (H0 : List AObj) : ARun Try.prog 95 [chk vs, .ag (cE e)] H0 (outU 34 (leafS vs e.op e.n e.unit) H0) := by
  by_cases h1 : e.op = 1
  · by_cases hq : 0 ≤ e.n ∧ e.n ≤ 1000000000
    · obtain ⟨hn1, hn2⟩ := hq
      cases hk : ofK e.unit with
      | none =>
        have : leafS vs e.op e.n e.unit = .error 1 := by simp [leafS, h1, hn1, hn2, hk]
        rw [this]
        (refine ARun.intro Try.func95 rfl Try.call95 Try.ntmps95 Try.results95 ?_; simp only [List.length_cons, List.length_nil, List.length_map, Nat.reduceAdd, Nat.reduceSub, List.replicate_succ, List.replicate_zero, List.cons_append, List.nil_append])
        (have rr1 := dr95_7_U6; have rr2 := dr95_8_U6; have ww1 := h1; have ww2 := hn1; have ww3 := hn2; have ww4 := @ofAns.eq_1; have ww5 := hk; have cc1 := fun z1 z2 => of_run z1 z2; have cc2 := fun z1 z2 => must_run z1 z2; have cc3 := fun z1 z2 => must_pan z1 z2; refine wk ?_; clear rr1 rr2 ww1 ww2 ww3 ww4 ww5 cc1 cc2 cc3; (repeat' first | exact True.intro | refine Lf.mk ?_ ?_); all_goals intro hP)
        (refine panX ?_; try exact True.intro)
      | some u =>
        have : leafS vs e.op e.n e.unit = .ok u := by simp [leafS, h1, hn1, hn2, hk]
        rw [this]
        (refine ARun.intro Try.func95 rfl Try.call95 Try.ntmps95 Try.results95 ?_; simp only [List.length_cons, List.length_nil, List.length_map, Nat.reduceAdd, Nat.reduceSub, List.replicate_succ, List.replicate_zero, List.cons_append, List.nil_append])
        (have rr1 := dr95_7_U6; have rr2 := dr95_8_U6; have ww1 := h1; have ww2 := hn1; have ww3 := hn2; have ww4 := @ofAns.eq_1; have ww5 := hk; have cc1 := fun z1 z2 => of_run z1 z2; have cc2 := fun z1 z2 => must_run z1 z2; have cc3 := fun z1 z2 => must_pan z1 z2; refine wk ?_; clear rr1 rr2 ww1 ww2 ww3 ww4 ww5 cc1 cc2 cc3; (repeat' first | exact True.intro | refine Lf.mk ?_ ?_); all_goals intro hP)
        (refine resX ?_; try exact True.intro)
    · have : leafS vs e.op e.n e.unit = .error 1 := by simp [leafS, h1, hq]
      rw [this]
      (refine ARun.intro Try.func95 rfl Try.call95 Try.ntmps95 Try.results95 ?_; simp only [List.length_cons, List.length_nil, List.length_map, Nat.reduceAdd, Nat.reduceSub, List.replicate_succ, List.replicate_zero, List.cons_append, List.nil_append])
      repeat' (first | refine awp_seq ?_ | refine awp_block ?_ | refine awp_scope ?_ | ((first | refine awp_region_k fun Kn Kp hn hp => ?_ | show AWP _ _ (Code.region 7 _ true) _ _ _; refine awp_drawn_k (id := 7) [13] [] [.win [0], .win [0], .win [0], .win [0], .win [0], .win [0], .win [0], .win [0], .win [0], .win [0], .win [0], .win [0], .win [0], .eff 0] 1 rfl (by as_aux_lemma => kernel_rfl) fun Kn Kp hn hp => ?_ | show AWP _ _ (Code.region 8 _ true) _ _ _; refine awp_drawn_k (id := 8) [8] [] [.win [0], .win [0], .win [0], .win [0], .win [0], .win [0], .win [0], .win [0], .eff 0] 1 rfl (by as_aux_lemma => kernel_rfl) fun Kn Kp hn hp => ?_ | refine oge_intro (by assumption) ?_) <;> (simp only [go_sem, Nat.reduceAdd, Nat.reduceSub, Nat.reduceMul, Nat.reduceLeDiff, Nat.reduceLT, Nat.reduceEqDiff, Int.reduceToNat, Int.reduceAdd, Int.reduceMul, Int.reduceSub, Int.reduceLT, Int.reduceLE, Int.reduceEq, Int.reduceNeg, Int.reduceBEq, Int.reduceBNe, ↓reduceIte, reduceCtorEq, h1] <;> try simp (disch := omega) only [wrap_of])) | (refine hn _ _ ?_; clear hn hp Kn Kp) | (refine hp _ _ _ ?_; clear hn hp Kn Kp) | (refine awp_cond rfl (fun hb => ?_) (fun hb => ?_) <;> (try simp only [decide_eq_true_eq, decide_eq_false_iff_not, Bool.not_eq_true', Bool.not_eq_false', Bool.true_eq_false, Bool.false_eq_true, beq_iff_eq, bne_iff_ne, bne_eq_false_iff_eq, beq_eq_false_iff_ne, gt_iff_lt, ge_iff_le, Int.reduceEq, Int.reduceNe, Int.reduceLT, Int.reduceLE, ne_eq, not_true_eq_false, not_false_eq_true] at hb)) | ((first | refine awg_split (fun hb => ?_) (fun hb => ?_) | refine awsg_split (fun hb => ?_) (fun hb => ?_) | refine awe_cases (must_c _ _ _) (fun hb => ?_) (fun hb => ?_)) <;> have hb0 := hb <;> (try simp only [decide_eq_true_eq, decide_eq_false_iff_not, Bool.not_eq_true', Bool.not_eq_false', Bool.true_eq_false, Bool.false_eq_true, beq_iff_eq, bne_iff_ne, bne_eq_false_iff_eq, beq_eq_false_iff_ne, gt_iff_lt, ge_iff_le, Int.reduceEq, Int.reduceNe, Int.reduceLT, Int.reduceLE, ne_eq, not_true_eq_false, not_false_eq_true] at hb0) <;> (try simp only [beq_true, beq_false, Bool.not_eq_true', Bool.not_eq_false'] at hb) <;> (simp only [go_sem, Nat.reduceAdd, Nat.reduceSub, Nat.reduceMul, Nat.reduceLeDiff, Nat.reduceLT, Nat.reduceEqDiff, Int.reduceToNat, Int.reduceAdd, Int.reduceMul, Int.reduceSub, Int.reduceLT, Int.reduceLE, Int.reduceEq, Int.reduceNeg, Int.reduceBEq, Int.reduceBNe, ↓reduceIte, reduceCtorEq, h1, hb, hb0] <;> try simp (disch := omega) only [wrap_of])) | (refine And.intro ?_ ?_) | refine awp_skip ?_ | refine awp_ret ?_ | refine awp_exit ?_ | refine awp_label ?_ | refine awloop_step ?_ | fail)
      all_goals first
        | omega
        | ((refine panX ?_; try exact True.intro))
  · have h1' : (e.op == 1) = false := by simpa using h1
    by_cases h2 : e.op = 2
    · by_cases hq : 0 ≤ e.n
      · cases hv : vs[e.n.toNat]? with
        | none =>
          have : leafS vs e.op e.n e.unit = .error 1 := by simp [leafS, h2, hq, hv]
          rw [this]
          have hlt : ¬ e.n < vs.length := by rw [List.getElem?_eq_none_iff] at hv; omega
          (refine ARun.intro Try.func95 rfl Try.call95 Try.ntmps95 Try.results95 ?_; simp only [List.length_cons, List.length_nil, List.length_map, Nat.reduceAdd, Nat.reduceSub, List.replicate_succ, List.replicate_zero, List.cons_append, List.nil_append])
          repeat' (first | refine awp_seq ?_ | refine awp_block ?_ | refine awp_scope ?_ | ((first | refine awp_region_k fun Kn Kp hn hp => ?_ | show AWP _ _ (Code.region 7 _ true) _ _ _; refine awp_drawn_k (id := 7) [13] [13] [.win [0], .win [0], .win [0], .win [0], .win [0], .win [0], .win [0], .win [0], .win [0], .win [0], .win [0], .win [0], .win [0], .pan [0]] 1 rfl (by as_aux_lemma => kernel_rfl) fun Kn Kp hn hp => ?_ | show AWP _ _ (Code.region 8 _ true) _ _ _; refine awp_drawn_k (id := 8) [8] [] [.win [0], .win [0], .win [0], .win [0], .win [0], .win [0], .win [0], .win [0], .eff 0] 1 rfl (by as_aux_lemma => kernel_rfl) fun Kn Kp hn hp => ?_ | refine oge_intro (by assumption) ?_ | (show AWE _ _ _ _ _ _ _ _ _; first | refine awe_intro (must_pan _ _) ?_) | (show AWSF _ _ _ _ _ _ _ _ _ _ _; first | refine awsf_intro (must_pan _ _) (fun hrun => ?_)) | (show OGE _ _ _ _ _ _ _; first | refine oge_intro (must_pan _ _) ?_) | (show AWSE _ _ _ _ _ _ _ _ _ _ _; first | refine awse_intro (must_pan _ _) (fun hrun => ?_)) | (show PGE _ _ _ _ _; first | refine pge_intro (must_pan _ _) (fun tm' => ?_))) <;> (simp only [go_sem, Nat.reduceAdd, Nat.reduceSub, Nat.reduceMul, Nat.reduceLeDiff, Nat.reduceLT, Nat.reduceEqDiff, Int.reduceToNat, Int.reduceAdd, Int.reduceMul, Int.reduceSub, Int.reduceLT, Int.reduceLE, Int.reduceEq, Int.reduceNeg, Int.reduceBEq, Int.reduceBNe, ↓reduceIte, reduceCtorEq, h2, h1', hq, hlt] <;> try simp (disch := omega) only [wrap_of])) | (refine hn _ _ ?_; clear hn hp Kn Kp) | (refine hp _ _ _ ?_; clear hn hp Kn Kp) | (refine awp_cond rfl (fun hb => ?_) (fun hb => ?_) <;> (try simp only [decide_eq_true_eq, decide_eq_false_iff_not, Bool.not_eq_true', Bool.not_eq_false', Bool.true_eq_false, Bool.false_eq_true, beq_iff_eq, bne_iff_ne, bne_eq_false_iff_eq, beq_eq_false_iff_ne, gt_iff_lt, ge_iff_le, Int.reduceEq, Int.reduceNe, Int.reduceLT, Int.reduceLE, ne_eq, not_true_eq_false, not_false_eq_true] at hb)) | ((first | refine awg_split (fun hb => ?_) (fun hb => ?_) | refine awsg_split (fun hb => ?_) (fun hb => ?_)) <;> have hb0 := hb <;> (try simp only [decide_eq_true_eq, decide_eq_false_iff_not, Bool.not_eq_true', Bool.not_eq_false', Bool.true_eq_false, Bool.false_eq_true, beq_iff_eq, bne_iff_ne, bne_eq_false_iff_eq, beq_eq_false_iff_ne, gt_iff_lt, ge_iff_le, Int.reduceEq, Int.reduceNe, Int.reduceLT, Int.reduceLE, ne_eq, not_true_eq_false, not_false_eq_true] at hb0) <;> (try simp only [beq_true, beq_false, Bool.not_eq_true', Bool.not_eq_false'] at hb) <;> (simp only [go_sem, Nat.reduceAdd, Nat.reduceSub, Nat.reduceMul, Nat.reduceLeDiff, Nat.reduceLT, Nat.reduceEqDiff, Int.reduceToNat, Int.reduceAdd, Int.reduceMul, Int.reduceSub, Int.reduceLT, Int.reduceLE, Int.reduceEq, Int.reduceNeg, Int.reduceBEq, Int.reduceBNe, ↓reduceIte, reduceCtorEq, h2, h1', hq, hlt, hb, hb0] <;> try simp (disch := omega) only [wrap_of])) | (refine And.intro ?_ ?_) | refine awp_skip ?_ | refine awp_ret ?_ | refine awp_exit ?_ | refine awp_label ?_ | refine awloop_step ?_ | fail)
          (refine panX ?_; try exact True.intro)
        | some u =>
          have : leafS vs e.op e.n e.unit = .ok u := by simp [leafS, h2, hq, hv]
          rw [this]
          have hlt : e.n < vs.length := by have := (List.getElem?_eq_some_iff.1 hv).1; omega
          (refine ARun.intro Try.func95 rfl Try.call95 Try.ntmps95 Try.results95 ?_; simp only [List.length_cons, List.length_nil, List.length_map, Nat.reduceAdd, Nat.reduceSub, List.replicate_succ, List.replicate_zero, List.cons_append, List.nil_append])
          (have rr1 := dr95_7_U6; have rr2 := dr95_8_U6; have ww1 := h2; have ww2 := h1'; have ww3 := hq; have ww4 := hlt; have ww5 := hv; have cc1 := fun z1 z2 => must_run z1 z2; refine wk ?_; clear rr1 rr2 ww1 ww2 ww3 ww4 ww5 cc1; (repeat' first | exact True.intro | refine Lf.mk ?_ ?_); all_goals intro hP)
          (refine resX ?_; try exact True.intro)
      · have : leafS vs e.op e.n e.unit = .error 1 := by simp [leafS, h2, hq]
        rw [this]
        (refine ARun.intro Try.func95 rfl Try.call95 Try.ntmps95 Try.results95 ?_; simp only [List.length_cons, List.length_nil, List.length_map, Nat.reduceAdd, Nat.reduceSub, List.replicate_succ, List.replicate_zero, List.cons_append, List.nil_append])
        repeat' (first | refine awp_seq ?_ | refine awp_block ?_ | refine awp_scope ?_ | ((first | refine awp_region_k fun Kn Kp hn hp => ?_ | show AWP _ _ (Code.region 7 _ true) _ _ _; refine awp_drawn_k (id := 7) [13] [13] [.win [0], .win [0], .win [0], .win [0], .win [0], .win [0], .win [0], .win [0], .win [0], .win [0], .win [0], .win [0], .win [0], .pan [0]] 1 rfl (by as_aux_lemma => kernel_rfl) fun Kn Kp hn hp => ?_ | show AWP _ _ (Code.region 8 _ true) _ _ _; refine awp_drawn_k (id := 8) [8] [] [.win [0], .win [0], .win [0], .win [0], .win [0], .win [0], .win [0], .win [0], .eff 0] 1 rfl (by as_aux_lemma => kernel_rfl) fun Kn Kp hn hp => ?_ | refine oge_intro (by assumption) ?_ | (show AWE _ _ _ _ _ _ _ _ _; first | refine awe_intro (must_pan _ _) ?_) | (show AWSF _ _ _ _ _ _ _ _ _ _ _; first | refine awsf_intro (must_pan _ _) (fun hrun => ?_)) | (show OGE _ _ _ _ _ _ _; first | refine oge_intro (must_pan _ _) ?_) | (show AWSE _ _ _ _ _ _ _ _ _ _ _; first | refine awse_intro (must_pan _ _) (fun hrun => ?_)) | (show PGE _ _ _ _ _; first | refine pge_intro (must_pan _ _) (fun tm' => ?_))) <;> (simp only [go_sem, Nat.reduceAdd, Nat.reduceSub, Nat.reduceMul, Nat.reduceLeDiff, Nat.reduceLT, Nat.reduceEqDiff, Int.reduceToNat, Int.reduceAdd, Int.reduceMul, Int.reduceSub, Int.reduceLT, Int.reduceLE, Int.reduceEq, Int.reduceNeg, Int.reduceBEq, Int.reduceBNe, ↓reduceIte, reduceCtorEq, h2, h1', hq] <;> try simp (disch := omega) only [wrap_of])) | (refine hn _ _ ?_; clear hn hp Kn Kp) | (refine hp _ _ _ ?_; clear hn hp Kn Kp) | (refine awp_cond rfl (fun hb => ?_) (fun hb => ?_) <;> (try simp only [decide_eq_true_eq, decide_eq_false_iff_not, Bool.not_eq_true', Bool.not_eq_false', Bool.true_eq_false, Bool.false_eq_true, beq_iff_eq, bne_iff_ne, bne_eq_false_iff_eq, beq_eq_false_iff_ne, gt_iff_lt, ge_iff_le, Int.reduceEq, Int.reduceNe, Int.reduceLT, Int.reduceLE, ne_eq, not_true_eq_false, not_false_eq_true] at hb)) | ((first | refine awg_split (fun hb => ?_) (fun hb => ?_) | refine awsg_split (fun hb => ?_) (fun hb => ?_)) <;> have hb0 := hb <;> (try simp only [decide_eq_true_eq, decide_eq_false_iff_not, Bool.not_eq_true', Bool.not_eq_false', Bool.true_eq_false, Bool.false_eq_true, beq_iff_eq, bne_iff_ne, bne_eq_false_iff_eq, beq_eq_false_iff_ne, gt_iff_lt, ge_iff_le, Int.reduceEq, Int.reduceNe, Int.reduceLT, Int.reduceLE, ne_eq, not_true_eq_false, not_false_eq_true] at hb0) <;> (try simp only [beq_true, beq_false, Bool.not_eq_true', Bool.not_eq_false'] at hb) <;> (simp only [go_sem, Nat.reduceAdd, Nat.reduceSub, Nat.reduceMul, Nat.reduceLeDiff, Nat.reduceLT, Nat.reduceEqDiff, Int.reduceToNat, Int.reduceAdd, Int.reduceMul, Int.reduceSub, Int.reduceLT, Int.reduceLE, Int.reduceEq, Int.reduceNeg, Int.reduceBEq, Int.reduceBNe, ↓reduceIte, reduceCtorEq, h2, h1', hq, hb, hb0] <;> try simp (disch := omega) only [wrap_of])) | (refine And.intro ?_ ?_) | refine awp_skip ?_ | refine awp_ret ?_ | refine awp_exit ?_ | refine awp_label ?_ | refine awloop_step ?_ | fail)
        (refine panX ?_; try exact True.intro)
    · have h2' : (e.op == 2) = false := by simpa using h2
      by_cases h3 : e.op = 3
      · by_cases hq : 0 ≤ e.n ∧ e.n ≤ 3
        · have hc : e.n = 0 ∨ e.n = 1 ∨ e.n = 2 ∨ e.n = 3 := by omega
          rcases hc with hc | hc | hc | hc
          all_goals
            simp only [leafS, h3, hc, Int.reduceEq, if_true, if_false, true_or, or_true, or_false, false_or, outU]
            (refine ARun.intro Try.func95 rfl Try.call95 Try.ntmps95 Try.results95 ?_; simp only [List.length_cons, List.length_nil, List.length_map, Nat.reduceAdd, Nat.reduceSub, List.replicate_succ, List.replicate_zero, List.cons_append, List.nil_append])
            (have rr1 := dr95_7_U6; have rr2 := dr95_8_U6; have ww1 := h3; have ww2 := hc; have ww3 := @ofAns.eq_1; have ww4 := @ofK.eq_1; have cc1 := fun z1 z2 => of_run z1 z2; have cc2 := fun z1 z2 => must_run z1 z2; refine wk ?_; clear rr1 rr2 ww1 ww2 ww3 ww4 cc1 cc2; (repeat' first | exact True.intro | refine Lf.mk ?_ ?_); all_goals intro hP)
            (refine resX ?_; try exact True.intro)
        · have : leafS vs e.op e.n e.unit = .error 1 := by
            have a0 : ¬ e.n = 0 := by omega
            have a1 : ¬ e.n = 1 := by omega
            have a2 : ¬ e.n = 2 := by omega
            have a3 : ¬ e.n = 3 := by omega
            simp [leafS, h3, a0, a1, a2, a3]
          rw [this]
          (refine ARun.intro Try.func95 rfl Try.call95 Try.ntmps95 Try.results95 ?_; simp only [List.length_cons, List.length_nil, List.length_map, Nat.reduceAdd, Nat.reduceSub, List.replicate_succ, List.replicate_zero, List.cons_append, List.nil_append])
          repeat' (first | refine awp_seq ?_ | refine awp_block ?_ | refine awp_scope ?_ | ((first | refine awp_region_k fun Kn Kp hn hp => ?_ | show AWP _ _ (Code.region 7 _ true) _ _ _; refine awp_drawn_k (id := 7) [13] [] [.win [0], .win [0], .win [0], .win [0], .win [0], .win [0], .win [0], .win [0], .win [0], .win [0], .win [0], .win [0], .win [0], .eff 0] 1 rfl (by as_aux_lemma => kernel_rfl) fun Kn Kp hn hp => ?_ | show AWP _ _ (Code.region 8 _ true) _ _ _; refine awp_drawn_k (id := 8) [8] [] [.win [0], .win [0], .win [0], .win [0], .win [0], .win [0], .win [0], .win [0], .eff 0] 1 rfl (by as_aux_lemma => kernel_rfl) fun Kn Kp hn hp => ?_ | refine oge_intro (by assumption) ?_) <;> (simp only [go_sem, Nat.reduceAdd, Nat.reduceSub, Nat.reduceMul, Nat.reduceLeDiff, Nat.reduceLT, Nat.reduceEqDiff, Int.reduceToNat, Int.reduceAdd, Int.reduceMul, Int.reduceSub, Int.reduceLT, Int.reduceLE, Int.reduceEq, Int.reduceNeg, Int.reduceBEq, Int.reduceBNe, ↓reduceIte, reduceCtorEq, h3] <;> try simp (disch := omega) only [wrap_of])) | (refine hn _ _ ?_; clear hn hp Kn Kp) | (refine hp _ _ _ ?_; clear hn hp Kn Kp) | (refine awp_cond rfl (fun hb => ?_) (fun hb => ?_) <;> (try simp only [decide_eq_true_eq, decide_eq_false_iff_not, Bool.not_eq_true', Bool.not_eq_false', Bool.true_eq_false, Bool.false_eq_true, beq_iff_eq, bne_iff_ne, bne_eq_false_iff_eq, beq_eq_false_iff_ne, gt_iff_lt, ge_iff_le, Int.reduceEq, Int.reduceNe, Int.reduceLT, Int.reduceLE, ne_eq, not_true_eq_false, not_false_eq_true] at hb)) | ((first | refine awg_split (fun hb => ?_) (fun hb => ?_) | refine awsg_split (fun hb => ?_) (fun hb => ?_) | refine awe_cases (must_c _ _ _) (fun hb => ?_) (fun hb => ?_)) <;> have hb0 := hb <;> (try simp only [decide_eq_true_eq, decide_eq_false_iff_not, Bool.not_eq_true', Bool.not_eq_false', Bool.true_eq_false, Bool.false_eq_true, beq_iff_eq, bne_iff_ne, bne_eq_false_iff_eq, beq_eq_false_iff_ne, gt_iff_lt, ge_iff_le, Int.reduceEq, Int.reduceNe, Int.reduceLT, Int.reduceLE, ne_eq, not_true_eq_false, not_false_eq_true] at hb0) <;> (try simp only [beq_true, beq_false, Bool.not_eq_true', Bool.not_eq_false'] at hb) <;> (simp only [go_sem, Nat.reduceAdd, Nat.reduceSub, Nat.reduceMul, Nat.reduceLeDiff, Nat.reduceLT, Nat.reduceEqDiff, Int.reduceToNat, Int.reduceAdd, Int.reduceMul, Int.reduceSub, Int.reduceLT, Int.reduceLE, Int.reduceEq, Int.reduceNeg, Int.reduceBEq, Int.reduceBNe, ↓reduceIte, reduceCtorEq, h3, hb, hb0] <;> try simp (disch := omega) only [wrap_of])) | (refine And.intro ?_ ?_) | refine awp_skip ?_ | refine awp_ret ?_ | refine awp_exit ?_ | refine awp_label ?_ | refine awloop_step ?_ | fail)
          all_goals first
            | omega
            | ((refine panX ?_; try exact True.intro))
      · have h3' : (e.op == 3) = false := by simpa using h3
        have : leafS vs e.op e.n e.unit = .error 1 := by simp [leafS, h1, h2, h3]
        rw [this]
        (refine ARun.intro Try.func95 rfl Try.call95 Try.ntmps95 Try.results95 ?_; simp only [List.length_cons, List.length_nil, List.length_map, Nat.reduceAdd, Nat.reduceSub, List.replicate_succ, List.replicate_zero, List.cons_append, List.nil_append])
        (have rr1 := dr95_7_U6; have rr2 := dr95_8_U6; have ww1 := h1'; have ww2 := h2'; have ww3 := h3'; refine wk ?_; clear rr1 rr2 ww1 ww2 ww3; (repeat' first | exact True.intro | refine Lf.mk ?_ ?_); all_goals intro hP)
        (refine panX ?_; try exact True.intro)
end Go.Proofs.Ytiifbdkedainnaa.Y

set_option maxHeartbeats 4000000
set_option linter.unusedVariables false
set_option linter.unusedSimpArgs false
namespace Go.Proofs.Ytiifbdkedainnaa.Y
open Go.Proofs.Ytiifbdkedainnaa.AL Go.Proofs Go
attribute [local irreducible] AWP AWL AWG AWR AWE AWX AWO AWSeq AWSG AWSR AWSO AWSE AWSF GoodP OGW OGR OGE OGX PGW PGR PGE Wk AWLoop AWPD AWLD
theorem dr89_12_U7 : Drawn Try.prog 12 (regOps 12 ((Try.f89.body).getD .skip)) [6, 7] [] [.win [0], .win [0], .win [0], .win [0], .win [0], .win [0], .eff 0, .eff 1] 2 [] := ⟨rfl, by as_aux_lemma => kernel_rfl⟩
theorem dr89_15_U7 : Drawn Try.prog 15 (regOps 15 ((Try.f89.body).getD .skip)) [6, 7] [] [.win [0], .win [0], .win [0], .win [0], .win [0], .win [0], .eff 0, .eff 1] 2 [] := ⟨rfl, by as_aux_lemma => kernel_rfl⟩
theorem dr89_16_U7 : Drawn Try.prog 16 (regOps 16 ((Try.f89.body).getD .skip)) [7] [] [.win [0], .win [0], .win [0], .win [0], .win [0], .win [0], .win [0], .eff 0] 1 [] := ⟨rfl, by as_aux_lemma => kernel_rfl⟩

theorem plus_ok (a b : Un) (s : Int) (ha : a.ok) (hb : b.ok) (hs : s = 1 ∨ s = -1) (h : (a.add b s).ok) (H0 : List AObj) : ARun Try.prog 96 [.ag (cU a), .ag (cU b), .i s] H0 (.ret (.ag (cU (a.add b s))) H0) := by
  have := plus_run a b s ha hb hs H0
  rwa [outC, if_pos h] at this
theorem plus_bad (a b : Un) (s : Int) (ha : a.ok) (hb : b.ok) (hs : s = 1 ∨ s = -1) (h : ¬ (a.add b s).ok) (H0 : List AObj) : ARun Try.prog 96 [.ag (cU a), .ag (cU b), .i s] H0 (.pan (.sc (.iface 34 (.int .i64 13))) H0) := by
  have := plus_run a b s ha hb hs H0
  rwa [outC, if_neg h] at this

theorem infL_drop (vs : List Un) (l : List Ex) : infL vs l = infL vs (l.drop 0) := by simp

theorem infer_run (vs : List Un) (hvs : ∀ u ∈ vs, u.ok) (e : Ex) : ∀ (H0 : List AObj), nodes e ≤ 1000000 → ARun Try.prog 89 [chk vs, .ag (cE e)] H0 (outU 34 (inf vs e) H0) := by
  induction e using Ex.ind with
  | h e ih =>
    intro H0 hnod
    rw [nodes_eq] at hnod
    have hlen := len_nodesL e.kids
    (refine ARun.intro Try.func89 rfl Try.call89 Try.ntmps89 Try.results89 ?_; simp only [List.length_cons, List.length_nil, List.length_map, Nat.reduceAdd, Nat.reduceSub, List.replicate_succ, List.replicate_zero, List.cons_append, List.nil_append])
    (refine wk ?_; (repeat' first | exact True.intro | refine Lf.mk ?_ ?_); all_goals intro hP)
    refine awp_loop_ind (σ := Nat × List Un) (fun s => e.kids.length - s.1)
      (fun s => s.2.length = s.1 ∧ s.1 ≤ e.kids.length ∧ (∀ u ∈ s.2, u.ok) ∧ infL vs e.kids = match infL vs (e.kids.drop s.1) with | .ok r => .ok (s.2 ++ r) | .error x => .error x)
      (fun s => (chk vs :: .any :: .any :: .p H0.length 0 :: .p (H0.length + 1) 0 :: .os (H0.length + 2) 0 s.2.length s.2.length :: .any :: .any :: .any :: .rs 4 (e.kids.map encE) :: .i e.kids.length :: .i s.1 :: .any :: .any :: .any :: .any :: .any :: .any :: .any :: .any :: .any :: .any :: .any :: .any :: .any :: .any :: .any :: .any :: .any :: .any :: .any :: .any :: .any :: .any :: .any :: .any :: .any :: .any :: .any :: .any :: .any :: .any :: .any :: .any :: .any :: .any :: .any :: .any :: .any :: .any :: .any :: .any :: .any :: .any :: .any :: .any :: .any :: .any :: .any :: .any :: .any :: .any :: .any :: .any :: .any :: .any :: .any :: .any :: .any :: .any :: .any :: .any :: .any :: .any :: []))
      (fun s => H0 ++ [.cells 71 [.i e.op, .i e.n, .i e.unit, .rs 4 (e.kids.map encE)], .cells 119 [.i 0, .i 0, .i 0], .arr 119 3 (pvRows (s.2.map fun u => cU u))]) (0, [])
      ⟨rfl, Nat.zero_le _, by simp, by simp only [List.drop_zero, List.nil_append]; cases infL vs e.kids <;> rfl⟩
      (Wk.ghostL 5 2 119 (sz := 3) (by omega) rfl rfl rfl (by (refine fgX ?_; try exact True.intro))) ?_
    · rintro ⟨i, acc⟩ ⟨h1, h2, h3, h4⟩
      simp only at h1 h2 h3 h4 ⊢
      have hf1 : (acc.length + 1) * 24 ≤ 140737488355328 := by omega
      have hf2 : acc.length + 1 ≤ 9223372036854775807 := by omega
      cases hr : e.kids.drop i with
      | nil =>
        have hlt := drop_nil hr
        rw [hr] at h4
        simp only [infL, List.append_nil] at h4
        have hinf : inf vs e = node vs e.op e.n e.unit acc := by rw [inf_eq, h4]
        rw [hinf]
        rcases acc with _ | ⟨a, _ | ⟨b, _ | ⟨c, rs⟩⟩⟩
        · have hl := fun H0 => leaf_run vs e H0
          simp only [node]
          cases hle : leafS vs e.op e.n e.unit with
          | ok u =>
            simp only [hle, outU] at hl ⊢
            repeat' (first | refine awp_seq ?_ | refine awp_block ?_ | refine awp_scope ?_ | ((first | refine awp_region_k fun Kn Kp hn hp => ?_ | show AWP _ _ (Code.region 12 _ true) _ _ _; refine awp_drawn_k (id := 12) [6, 7] [] [.win [0], .win [0], .win [0], .win [0], .win [0], .win [0], .eff 0, .eff 1] 2 rfl (by as_aux_lemma => kernel_rfl) fun Kn Kp hn hp => ?_ | show AWP _ _ (Code.region 15 _ true) _ _ _; refine awp_drawn_k (id := 15) [6, 7] [] [.win [0], .win [0], .win [0], .win [0], .win [0], .win [0], .eff 0, .eff 1] 2 rfl (by as_aux_lemma => kernel_rfl) fun Kn Kp hn hp => ?_ | show AWP _ _ (Code.region 16 _ true) _ _ _; refine awp_drawn_k (id := 16) [7] [] [.win [0], .win [0], .win [0], .win [0], .win [0], .win [0], .win [0], .eff 0] 1 rfl (by as_aux_lemma => kernel_rfl) fun Kn Kp hn hp => ?_ | refine oge_intro (by assumption) ?_ | (show AWE _ _ _ _ _ _ _ _ _; first | refine awe_intro (hl _) ?_) | (show AWSF _ _ _ _ _ _ _ _ _ _ _; first | refine awsf_intro (hl _) (fun hrun => ?_)) | (show OGE _ _ _ _ _ _ _; first | refine oge_intro (hl _) ?_) | (show AWSE _ _ _ _ _ _ _ _ _ _ _; first | refine awse_intro (hl _) (fun hrun => ?_)) | (show PGE _ _ _ _ _; first | refine pge_intro (hl _) (fun tm' => ?_))) <;> (simp only [go_sem, Nat.reduceAdd, Nat.reduceSub, Nat.reduceMul, Nat.reduceLeDiff, Nat.reduceLT, Nat.reduceEqDiff, Int.reduceToNat, Int.reduceAdd, Int.reduceMul, Int.reduceSub, Int.reduceLT, Int.reduceLE, Int.reduceEq, Int.reduceNeg, Int.reduceBEq, Int.reduceBNe, ↓reduceIte, reduceCtorEq, hlt, pvRows_len, Int.natCast_zero, List.length_map] <;> try simp (disch := omega) only [wrap_of])) | (refine hn _ _ ?_; clear hn hp Kn Kp) | (refine hp _ _ _ ?_; clear hn hp Kn Kp) | (refine awp_cond rfl (fun hb => ?_) (fun hb => ?_) <;> (try simp only [decide_eq_true_eq, decide_eq_false_iff_not, Bool.not_eq_true', Bool.not_eq_false', Bool.true_eq_false, Bool.false_eq_true, beq_iff_eq, bne_iff_ne, bne_eq_false_iff_eq, beq_eq_false_iff_ne, gt_iff_lt, ge_iff_le, Int.reduceEq, Int.reduceNe, Int.reduceLT, Int.reduceLE, ne_eq, not_true_eq_false, not_false_eq_true] at hb)) | ((first | refine awg_split (fun hb => ?_) (fun hb => ?_) | refine awsg_split (fun hb => ?_) (fun hb => ?_)) <;> have hb0 := hb <;> (try simp only [decide_eq_true_eq, decide_eq_false_iff_not, Bool.not_eq_true', Bool.not_eq_false', Bool.true_eq_false, Bool.false_eq_true, beq_iff_eq, bne_iff_ne, bne_eq_false_iff_eq, beq_eq_false_iff_ne, gt_iff_lt, ge_iff_le, Int.reduceEq, Int.reduceNe, Int.reduceLT, Int.reduceLE, ne_eq, not_true_eq_false, not_false_eq_true] at hb0) <;> (try simp only [beq_true, beq_false, Bool.not_eq_true', Bool.not_eq_false'] at hb) <;> (simp only [go_sem, Nat.reduceAdd, Nat.reduceSub, Nat.reduceMul, Nat.reduceLeDiff, Nat.reduceLT, Nat.reduceEqDiff, Int.reduceToNat, Int.reduceAdd, Int.reduceMul, Int.reduceSub, Int.reduceLT, Int.reduceLE, Int.reduceEq, Int.reduceNeg, Int.reduceBEq, Int.reduceBNe, ↓reduceIte, reduceCtorEq, hlt, pvRows_len, Int.natCast_zero, List.length_map, hb, hb0] <;> try simp (disch := omega) only [wrap_of])) | (refine And.intro ?_ ?_) | refine awp_skip ?_ | refine awp_ret ?_ | refine awp_exit ?_ | refine awp_label ?_ | refine awloop_step ?_ | fail)
            (refine resX ?_; try exact True.intro)
          | error x =>
            simp only [hle, outU] at hl ⊢
            repeat' (first | refine awp_seq ?_ | refine awp_block ?_ | refine awp_scope ?_ | ((first | refine awp_region_k fun Kn Kp hn hp => ?_ | show AWP _ _ (Code.region 12 _ true) _ _ _; refine awp_drawn_k (id := 12) [6, 7] [] [.win [0], .win [0], .win [0], .win [0], .win [0], .win [0], .eff 0, .eff 1] 2 rfl (by as_aux_lemma => kernel_rfl) fun Kn Kp hn hp => ?_ | show AWP _ _ (Code.region 15 _ true) _ _ _; refine awp_drawn_k (id := 15) [6, 7] [] [.win [0], .win [0], .win [0], .win [0], .win [0], .win [0], .eff 0, .eff 1] 2 rfl (by as_aux_lemma => kernel_rfl) fun Kn Kp hn hp => ?_ | show AWP _ _ (Code.region 16 _ true) _ _ _; refine awp_drawn_k (id := 16) [7] [] [.win [0], .win [0], .win [0], .win [0], .win [0], .win [0], .win [0], .eff 0] 1 rfl (by as_aux_lemma => kernel_rfl) fun Kn Kp hn hp => ?_ | refine oge_intro (by assumption) ?_ | (show AWE _ _ _ _ _ _ _ _ _; first | refine awe_intro (hl _) ?_) | (show AWSF _ _ _ _ _ _ _ _ _ _ _; first | refine awsf_intro (hl _) (fun hrun => ?_)) | (show OGE _ _ _ _ _ _ _; first | refine oge_intro (hl _) ?_) | (show AWSE _ _ _ _ _ _ _ _ _ _ _; first | refine awse_intro (hl _) (fun hrun => ?_)) | (show PGE _ _ _ _ _; first | refine pge_intro (hl _) (fun tm' => ?_))) <;> (simp only [go_sem, Nat.reduceAdd, Nat.reduceSub, Nat.reduceMul, Nat.reduceLeDiff, Nat.reduceLT, Nat.reduceEqDiff, Int.reduceToNat, Int.reduceAdd, Int.reduceMul, Int.reduceSub, Int.reduceLT, Int.reduceLE, Int.reduceEq, Int.reduceNeg, Int.reduceBEq, Int.reduceBNe, ↓reduceIte, reduceCtorEq, hlt, pvRows_len, Int.natCast_zero, List.length_map] <;> try simp (disch := omega) only [wrap_of])) | (refine hn _ _ ?_; clear hn hp Kn Kp) | (refine hp _ _ _ ?_; clear hn hp Kn Kp) | (refine awp_cond rfl (fun hb => ?_) (fun hb => ?_) <;> (try simp only [decide_eq_true_eq, decide_eq_false_iff_not, Bool.not_eq_true', Bool.not_eq_false', Bool.true_eq_false, Bool.false_eq_true, beq_iff_eq, bne_iff_ne, bne_eq_false_iff_eq, beq_eq_false_iff_ne, gt_iff_lt, ge_iff_le, Int.reduceEq, Int.reduceNe, Int.reduceLT, Int.reduceLE, ne_eq, not_true_eq_false, not_false_eq_true] at hb)) | ((first | refine awg_split (fun hb => ?_) (fun hb => ?_) | refine awsg_split (fun hb => ?_) (fun hb => ?_)) <;> have hb0 := hb <;> (try simp only [decide_eq_true_eq, decide_eq_false_iff_not, Bool.not_eq_true', Bool.not_eq_false', Bool.true_eq_false, Bool.false_eq_true, beq_iff_eq, bne_iff_ne, bne_eq_false_iff_eq, beq_eq_false_iff_ne, gt_iff_lt, ge_iff_le, Int.reduceEq, Int.reduceNe, Int.reduceLT, Int.reduceLE, ne_eq, not_true_eq_false, not_false_eq_true] at hb0) <;> (try simp only [beq_true, beq_false, Bool.not_eq_true', Bool.not_eq_false'] at hb) <;> (simp only [go_sem, Nat.reduceAdd, Nat.reduceSub, Nat.reduceMul, Nat.reduceLeDiff, Nat.reduceLT, Nat.reduceEqDiff, Int.reduceToNat, Int.reduceAdd, Int.reduceMul, Int.reduceSub, Int.reduceLT, Int.reduceLE, Int.reduceEq, Int.reduceNeg, Int.reduceBEq, Int.reduceBNe, ↓reduceIte, reduceCtorEq, hlt, pvRows_len, Int.natCast_zero, List.length_map, hb, hb0] <;> try simp (disch := omega) only [wrap_of])) | (refine And.intro ?_ ?_) | refine awp_skip ?_ | refine awp_ret ?_ | refine awp_exit ?_ | refine awp_label ?_ | refine awloop_step ?_ | fail)
            (refine panX ?_; try exact True.intro)
        · simp only [node, outU]
          repeat' (first | refine awp_seq ?_ | refine awp_block ?_ | refine awp_scope ?_ | ((first | refine awp_region_k fun Kn Kp hn hp => ?_ | show AWP _ _ (Code.region 12 _ true) _ _ _; refine awp_drawn_k (id := 12) [6, 7] [] [.win [0], .win [0], .win [0], .win [0], .win [0], .win [0], .eff 0, .eff 1] 2 rfl (by as_aux_lemma => kernel_rfl) fun Kn Kp hn hp => ?_ | show AWP _ _ (Code.region 15 _ true) _ _ _; refine awp_drawn_k (id := 15) [6, 7] [] [.win [0], .win [0], .win [0], .win [0], .win [0], .win [0], .eff 0, .eff 1] 2 rfl (by as_aux_lemma => kernel_rfl) fun Kn Kp hn hp => ?_ | show AWP _ _ (Code.region 16 _ true) _ _ _; refine awp_drawn_k (id := 16) [7] [] [.win [0], .win [0], .win [0], .win [0], .win [0], .win [0], .win [0], .eff 0] 1 rfl (by as_aux_lemma => kernel_rfl) fun Kn Kp hn hp => ?_ | refine oge_intro (by assumption) ?_ | (show AWE _ _ _ _ _ _ _ _ _; first | refine awe_intro (must_pan _ _) ?_) | (show AWSF _ _ _ _ _ _ _ _ _ _ _; first | refine awsf_intro (must_pan _ _) (fun hrun => ?_)) | (show OGE _ _ _ _ _ _ _; first | refine oge_intro (must_pan _ _) ?_) | (show AWSE _ _ _ _ _ _ _ _ _ _ _; first | refine awse_intro (must_pan _ _) (fun hrun => ?_)) | (show PGE _ _ _ _ _; first | refine pge_intro (must_pan _ _) (fun tm' => ?_))) <;> (simp only [go_sem, Nat.reduceAdd, Nat.reduceSub, Nat.reduceMul, Nat.reduceLeDiff, Nat.reduceLT, Nat.reduceEqDiff, Int.reduceToNat, Int.reduceAdd, Int.reduceMul, Int.reduceSub, Int.reduceLT, Int.reduceLE, Int.reduceEq, Int.reduceNeg, Int.reduceBEq, Int.reduceBNe, ↓reduceIte, reduceCtorEq, hlt, pvRows_len, Int.natCast_zero, Int.natCast_one, List.length_map] <;> try simp (disch := omega) only [wrap_of])) | (refine hn _ _ ?_; clear hn hp Kn Kp) | (refine hp _ _ _ ?_; clear hn hp Kn Kp) | (refine awp_cond rfl (fun hb => ?_) (fun hb => ?_) <;> (try simp only [decide_eq_true_eq, decide_eq_false_iff_not, Bool.not_eq_true', Bool.not_eq_false', Bool.true_eq_false, Bool.false_eq_true, beq_iff_eq, bne_iff_ne, bne_eq_false_iff_eq, beq_eq_false_iff_ne, gt_iff_lt, ge_iff_le, Int.reduceEq, Int.reduceNe, Int.reduceLT, Int.reduceLE, ne_eq, not_true_eq_false, not_false_eq_true] at hb)) | ((first | refine awg_split (fun hb => ?_) (fun hb => ?_) | refine awsg_split (fun hb => ?_) (fun hb => ?_)) <;> have hb0 := hb <;> (try simp only [decide_eq_true_eq, decide_eq_false_iff_not, Bool.not_eq_true', Bool.not_eq_false', Bool.true_eq_false, Bool.false_eq_true, beq_iff_eq, bne_iff_ne, bne_eq_false_iff_eq, beq_eq_false_iff_ne, gt_iff_lt, ge_iff_le, Int.reduceEq, Int.reduceNe, Int.reduceLT, Int.reduceLE, ne_eq, not_true_eq_false, not_false_eq_true] at hb0) <;> (try simp only [beq_true, beq_false, Bool.not_eq_true', Bool.not_eq_false'] at hb) <;> (simp only [go_sem, Nat.reduceAdd, Nat.reduceSub, Nat.reduceMul, Nat.reduceLeDiff, Nat.reduceLT, Nat.reduceEqDiff, Int.reduceToNat, Int.reduceAdd, Int.reduceMul, Int.reduceSub, Int.reduceLT, Int.reduceLE, Int.reduceEq, Int.reduceNeg, Int.reduceBEq, Int.reduceBNe, ↓reduceIte, reduceCtorEq, hlt, pvRows_len, Int.natCast_zero, Int.natCast_one, List.length_map, hb, hb0] <;> try simp (disch := omega) only [wrap_of])) | (refine And.intro ?_ ?_) | refine awp_skip ?_ | refine awp_ret ?_ | refine awp_exit ?_ | refine awp_label ?_ | refine awloop_step ?_ | fail)
          all_goals first
            | omega
            | ((refine panX ?_; try exact True.intro))
        · simp only [node]
          have ha := h3 a (by simp)
          have hb0 := h3 b (by simp)
          by_cases hop : 4 ≤ e.op ∧ e.op ≤ 10
          · rw [if_pos hop]
            obtain ⟨hop1, hop2⟩ := hop
            by_cases h6 : e.op = 6
            · by_cases hk : (a.add b 1).ok
              · have hcb : comb e.op a b = .ok (a.add b 1) := by simp [comb, h6, hk]
                rw [hcb]
                simp only [outU]
                (have rr1 := dr89_12_U7; have rr2 := dr89_15_U7; have rr3 := dr89_16_U7; have ww1 := hlt; have ww2 := @pvRows.eq_1; have ww3 := @pvRows_len; have ww4 := h6; have cc1 := fun z1 z2 => must_run z1 z2; have cc2 := fun z1 => plus_ok a b 1 ha hb0 (.inl rfl) hk z1; refine wk ?_; clear rr1 rr2 rr3 ww1 ww2 ww3 ww4 cc1 cc2; (repeat' first | exact True.intro | refine Lf.mk ?_ ?_); all_goals intro hP)
                (refine resX ?_; try exact True.intro)
              · have hcb : comb e.op a b = .error 13 := by simp [comb, h6, hk]
                rw [hcb]
                simp only [outU]
                repeat' (first | refine awp_seq ?_ | refine awp_block ?_ | refine awp_scope ?_ | ((first | refine awp_region_k fun Kn Kp hn hp => ?_ | show AWP _ _ (Code.region 12 _ true) _ _ _; refine awp_drawn_k (id := 12) [6, 7] [6] [.win [0], .win [0], .win [0], .win [0], .win [0], .win [0], .pan [0], .skip] 2 rfl (by as_aux_lemma => kernel_rfl) fun Kn Kp hn hp => ?_ | show AWP _ _ (Code.region 15 _ true) _ _ _; refine awp_drawn_k (id := 15) [6, 7] [] [.win [0], .win [0], .win [0], .win [0], .win [0], .win [0], .eff 0, .eff 1] 2 rfl (by as_aux_lemma => kernel_rfl) fun Kn Kp hn hp => ?_ | show AWP _ _ (Code.region 16 _ true) _ _ _; refine awp_drawn_k (id := 16) [7] [] [.win [0], .win [0], .win [0], .win [0], .win [0], .win [0], .win [0], .eff 0] 1 rfl (by as_aux_lemma => kernel_rfl) fun Kn Kp hn hp => ?_ | refine oge_intro (by assumption) ?_ | (show AWE _ _ _ _ _ _ _ _ _; first | refine awe_intro (must_run _ _) ?_ | refine awe_intro (plus_bad a b 1 ha hb0 (.inl rfl) hk _) ?_) | (show AWSF _ _ _ _ _ _ _ _ _ _ _; first | refine awsf_intro (must_run _ _) (fun hrun => ?_) | refine awsf_intro (plus_bad a b 1 ha hb0 (.inl rfl) hk _) (fun hrun => ?_)) | (show OGE _ _ _ _ _ _ _; first | refine oge_intro (must_run _ _) ?_ | refine oge_intro (plus_bad a b 1 ha hb0 (.inl rfl) hk _) ?_) | (show AWSE _ _ _ _ _ _ _ _ _ _ _; first | refine awse_intro (must_run _ _) (fun hrun => ?_) | refine awse_intro (plus_bad a b 1 ha hb0 (.inl rfl) hk _) (fun hrun => ?_)) | (show PGE _ _ _ _ _; first | refine pge_intro (must_run _ _) (fun tm' => ?_) | refine pge_intro (plus_bad a b 1 ha hb0 (.inl rfl) hk _) (fun tm' => ?_))) <;> (simp only [go_sem, Nat.reduceAdd, Nat.reduceSub, Nat.reduceMul, Nat.reduceLeDiff, Nat.reduceLT, Nat.reduceEqDiff, Int.reduceToNat, Int.reduceAdd, Int.reduceMul, Int.reduceSub, Int.reduceLT, Int.reduceLE, Int.reduceEq, Int.reduceNeg, Int.reduceBEq, Int.reduceBNe, ↓reduceIte, reduceCtorEq, hlt, pvRows, pvRows_len, h6, List.length_map] <;> try simp (disch := omega) only [wrap_of])) | (refine hn _ _ ?_; clear hn hp Kn Kp) | (refine hp _ _ _ ?_; clear hn hp Kn Kp) | (refine awp_cond rfl (fun hb => ?_) (fun hb => ?_) <;> (try simp only [decide_eq_true_eq, decide_eq_false_iff_not, Bool.not_eq_true', Bool.not_eq_false', Bool.true_eq_false, Bool.false_eq_true, beq_iff_eq, bne_iff_ne, bne_eq_false_iff_eq, beq_eq_false_iff_ne, gt_iff_lt, ge_iff_le, Int.reduceEq, Int.reduceNe, Int.reduceLT, Int.reduceLE, ne_eq, not_true_eq_false, not_false_eq_true] at hb)) | ((first | refine awg_split (fun hb => ?_) (fun hb => ?_) | refine awsg_split (fun hb => ?_) (fun hb => ?_)) <;> have hb0 := hb <;> (try simp only [decide_eq_true_eq, decide_eq_false_iff_not, Bool.not_eq_true', Bool.not_eq_false', Bool.true_eq_false, Bool.false_eq_true, beq_iff_eq, bne_iff_ne, bne_eq_false_iff_eq, beq_eq_false_iff_ne, gt_iff_lt, ge_iff_le, Int.reduceEq, Int.reduceNe, Int.reduceLT, Int.reduceLE, ne_eq, not_true_eq_false, not_false_eq_true] at hb0) <;> (try simp only [beq_true, beq_false, Bool.not_eq_true', Bool.not_eq_false'] at hb) <;> (simp only [go_sem, Nat.reduceAdd, Nat.reduceSub, Nat.reduceMul, Nat.reduceLeDiff, Nat.reduceLT, Nat.reduceEqDiff, Int.reduceToNat, Int.reduceAdd, Int.reduceMul, Int.reduceSub, Int.reduceLT, Int.reduceLE, Int.reduceEq, Int.reduceNeg, Int.reduceBEq, Int.reduceBNe, ↓reduceIte, reduceCtorEq, hlt, pvRows, pvRows_len, h6, List.length_map, hb, hb0] <;> try simp (disch := omega) only [wrap_of])) | (refine And.intro ?_ ?_) | refine awp_skip ?_ | refine awp_ret ?_ | refine awp_exit ?_ | refine awp_label ?_ | refine awloop_step ?_ | fail)
                (refine panX ?_; try exact True.intro)
            · have g6 : (e.op == 6) = false := by simpa using h6
              by_cases h78 : e.op = 7 ∨ e.op = 8
              · rcases h78 with hs8 | hs8
                all_goals
                  by_cases hk : (a.add b (-1)).ok
                  · have hcb : comb e.op a b = .ok (a.add b (-1)) := by simp [comb, hs8, hk]
                    rw [hcb]
                    simp only [outU]
                    (have rr1 := dr89_12_U7; have rr2 := dr89_15_U7; have rr3 := dr89_16_U7; have ww1 := hlt; have ww2 := @pvRows.eq_1; have ww3 := @pvRows_len; have ww4 := hs8; have cc1 := fun z1 z2 => must_run z1 z2; have cc2 := fun z1 => plus_ok a b (-1) ha hb0 (.inr rfl) hk z1; refine wk ?_; clear rr1 rr2 rr3 ww1 ww2 ww3 ww4 cc1 cc2; (repeat' first | exact True.intro | refine Lf.mk ?_ ?_); all_goals intro hP)
                    (refine resX ?_; try exact True.intro)
                  · have hcb : comb e.op a b = .error 13 := by simp [comb, hs8, hk]
                    rw [hcb]
                    simp only [outU]
                    repeat' (first | refine awp_seq ?_ | refine awp_block ?_ | refine awp_scope ?_ | ((first | refine awp_region_k fun Kn Kp hn hp => ?_ | show AWP _ _ (Code.region 12 _ true) _ _ _; refine awp_drawn_k (id := 12) [6, 7] [] [.win [0], .win [0], .win [0], .win [0], .win [0], .win [0], .eff 0, .eff 1] 2 rfl (by as_aux_lemma => kernel_rfl) fun Kn Kp hn hp => ?_ | show AWP _ _ (Code.region 15 _ true) _ _ _; refine awp_drawn_k (id := 15) [6, 7] [6] [.win [0], .win [0], .win [0], .win [0], .win [0], .win [0], .pan [0], .skip] 2 rfl (by as_aux_lemma => kernel_rfl) fun Kn Kp hn hp => ?_ | show AWP _ _ (Code.region 16 _ true) _ _ _; refine awp_drawn_k (id := 16) [7] [] [.win [0], .win [0], .win [0], .win [0], .win [0], .win [0], .win [0], .eff 0] 1 rfl (by as_aux_lemma => kernel_rfl) fun Kn Kp hn hp => ?_ | refine oge_intro (by assumption) ?_ | (show AWE _ _ _ _ _ _ _ _ _; first | refine awe_intro (must_run _ _) ?_ | refine awe_intro (plus_bad a b (-1) ha hb0 (.inr rfl) hk _) ?_) | (show AWSF _ _ _ _ _ _ _ _ _ _ _; first | refine awsf_intro (must_run _ _) (fun hrun => ?_) | refine awsf_intro (plus_bad a b (-1) ha hb0 (.inr rfl) hk _) (fun hrun => ?_)) | (show OGE _ _ _ _ _ _ _; first | refine oge_intro (must_run _ _) ?_ | refine oge_intro (plus_bad a b (-1) ha hb0 (.inr rfl) hk _) ?_) | (show AWSE _ _ _ _ _ _ _ _ _ _ _; first | refine awse_intro (must_run _ _) (fun hrun => ?_) | refine awse_intro (plus_bad a b (-1) ha hb0 (.inr rfl) hk _) (fun hrun => ?_)) | (show PGE _ _ _ _ _; first | refine pge_intro (must_run _ _) (fun tm' => ?_) | refine pge_intro (plus_bad a b (-1) ha hb0 (.inr rfl) hk _) (fun tm' => ?_))) <;> (simp only [go_sem, Nat.reduceAdd, Nat.reduceSub, Nat.reduceMul, Nat.reduceLeDiff, Nat.reduceLT, Nat.reduceEqDiff, Int.reduceToNat, Int.reduceAdd, Int.reduceMul, Int.reduceSub, Int.reduceLT, Int.reduceLE, Int.reduceEq, Int.reduceNeg, Int.reduceBEq, Int.reduceBNe, ↓reduceIte, reduceCtorEq, hlt, pvRows, pvRows_len, hs8, List.length_map] <;> try simp (disch := omega) only [wrap_of])) | (refine hn _ _ ?_; clear hn hp Kn Kp) | (refine hp _ _ _ ?_; clear hn hp Kn Kp) | (refine awp_cond rfl (fun hb => ?_) (fun hb => ?_) <;> (try simp only [decide_eq_true_eq, decide_eq_false_iff_not, Bool.not_eq_true', Bool.not_eq_false', Bool.true_eq_false, Bool.false_eq_true, beq_iff_eq, bne_iff_ne, bne_eq_false_iff_eq, beq_eq_false_iff_ne, gt_iff_lt, ge_iff_le, Int.reduceEq, Int.reduceNe, Int.reduceLT, Int.reduceLE, ne_eq, not_true_eq_false, not_false_eq_true] at hb)) | ((first | refine awg_split (fun hb => ?_) (fun hb => ?_) | refine awsg_split (fun hb => ?_) (fun hb => ?_)) <;> have hb0 := hb <;> (try simp only [decide_eq_true_eq, decide_eq_false_iff_not, Bool.not_eq_true', Bool.not_eq_false', Bool.true_eq_false, Bool.false_eq_true, beq_iff_eq, bne_iff_ne, bne_eq_false_iff_eq, beq_eq_false_iff_ne, gt_iff_lt, ge_iff_le, Int.reduceEq, Int.reduceNe, Int.reduceLT, Int.reduceLE, ne_eq, not_true_eq_false, not_false_eq_true] at hb0) <;> (try simp only [beq_true, beq_false, Bool.not_eq_true', Bool.not_eq_false'] at hb) <;> (simp only [go_sem, Nat.reduceAdd, Nat.reduceSub, Nat.reduceMul, Nat.reduceLeDiff, Nat.reduceLT, Nat.reduceEqDiff, Int.reduceToNat, Int.reduceAdd, Int.reduceMul, Int.reduceSub, Int.reduceLT, Int.reduceLE, Int.reduceEq, Int.reduceNeg, Int.reduceBEq, Int.reduceBNe, ↓reduceIte, reduceCtorEq, hlt, pvRows, pvRows_len, hs8, List.length_map, hb, hb0] <;> try simp (disch := omega) only [wrap_of])) | (refine And.intro ?_ ?_) | refine awp_skip ?_ | refine awp_ret ?_ | refine awp_exit ?_ | refine awp_label ?_ | refine awloop_step ?_ | fail)
                    (refine panX ?_; try exact True.intro)
              · have g7 : (e.op == 7) = false := by simp; omega
                have g8 : (e.op == 8) = false := by simp; omega
                by_cases hab : a = b
                · subst hab
                  have hcb : comb e.op a a = .ok a := by simp [comb, h6, h78]
                  rw [hcb]
                  simp only [outU]
                  (have rr1 := dr89_12_U7; have rr2 := dr89_15_U7; have rr3 := dr89_16_U7; have ww1 := hlt; have ww2 := @pvRows.eq_1; have ww3 := @pvRows_len; have ww4 := g6; have ww5 := g7; have ww6 := g8; have ww7 := hop1; have ww8 := hop2; have ww9 := @eqg70; have cc1 := fun z1 z2 => must_run z1 z2; refine wk ?_; clear rr1 rr2 rr3 ww1 ww2 ww3 ww4 ww5 ww6 ww7 ww8 ww9 cc1; (repeat' first | exact True.intro | refine Lf.mk ?_ ?_); all_goals intro hP)
                  (refine resX ?_; try exact True.intro)
                · have hcb : comb e.op a b = .error 13 := by simp [comb, h6, h78, hab]
                  have hE := eqU a b
                  rw [decide_eq_false hab] at hE
                  rw [hcb]
                  simp only [outU]
                  repeat' (first | refine awp_seq ?_ | refine awp_block ?_ | refine awp_scope ?_ | ((first | refine awp_region_k fun Kn Kp hn hp => ?_ | show AWP _ _ (Code.region 12 _ true) _ _ _; refine awp_drawn_k (id := 12) [6, 7] [] [.win [0], .win [0], .win [0], .win [0], .win [0], .win [0], .eff 0, .eff 1] 2 rfl (by as_aux_lemma => kernel_rfl) fun Kn Kp hn hp => ?_ | show AWP _ _ (Code.region 15 _ true) _ _ _; refine awp_drawn_k (id := 15) [6, 7] [] [.win [0], .win [0], .win [0], .win [0], .win [0], .win [0], .eff 0, .eff 1] 2 rfl (by as_aux_lemma => kernel_rfl) fun Kn Kp hn hp => ?_ | show AWP _ _ (Code.region 16 _ true) _ _ _; refine awp_drawn_k (id := 16) [7] [7] [.win [0], .win [0], .win [0], .win [0], .win [0], .win [0], .win [0], .pan [0]] 1 rfl (by as_aux_lemma => kernel_rfl) fun Kn Kp hn hp => ?_ | refine oge_intro (by assumption) ?_ | (show AWE _ _ _ _ _ _ _ _ _; first | refine awe_intro (must_run _ _) ?_ | refine awe_intro (must_pan _ _) ?_) | (show AWSF _ _ _ _ _ _ _ _ _ _ _; first | refine awsf_intro (must_run _ _) (fun hrun => ?_) | refine awsf_intro (must_pan _ _) (fun hrun => ?_)) | (show OGE _ _ _ _ _ _ _; first | refine oge_intro (must_run _ _) ?_ | refine oge_intro (must_pan _ _) ?_) | (show AWSE _ _ _ _ _ _ _ _ _ _ _; first | refine awse_intro (must_run _ _) (fun hrun => ?_) | refine awse_intro (must_pan _ _) (fun hrun => ?_)) | (show PGE _ _ _ _ _; first | refine pge_intro (must_run _ _) (fun tm' => ?_) | refine pge_intro (must_pan _ _) (fun tm' => ?_))) <;> (simp only [go_sem, Nat.reduceAdd, Nat.reduceSub, Nat.reduceMul, Nat.reduceLeDiff, Nat.reduceLT, Nat.reduceEqDiff, Int.reduceToNat, Int.reduceAdd, Int.reduceMul, Int.reduceSub, Int.reduceLT, Int.reduceLE, Int.reduceEq, Int.reduceNeg, Int.reduceBEq, Int.reduceBNe, ↓reduceIte, reduceCtorEq, hlt, pvRows, pvRows_len, g6, g7, g8, hop1, hop2, eqg70, hE, List.length_map] <;> try simp (disch := omega) only [wrap_of])) | (refine hn _ _ ?_; clear hn hp Kn Kp) | (refine hp _ _ _ ?_; clear hn hp Kn Kp) | (refine awp_cond rfl (fun hb => ?_) (fun hb => ?_) <;> (try simp only [decide_eq_true_eq, decide_eq_false_iff_not, Bool.not_eq_true', Bool.not_eq_false', Bool.true_eq_false, Bool.false_eq_true, beq_iff_eq, bne_iff_ne, bne_eq_false_iff_eq, beq_eq_false_iff_ne, gt_iff_lt, ge_iff_le, Int.reduceEq, Int.reduceNe, Int.reduceLT, Int.reduceLE, ne_eq, not_true_eq_false, not_false_eq_true] at hb)) | ((first | refine awg_split (fun hb => ?_) (fun hb => ?_) | refine awsg_split (fun hb => ?_) (fun hb => ?_)) <;> have hb0 := hb <;> (try simp only [decide_eq_true_eq, decide_eq_false_iff_not, Bool.not_eq_true', Bool.not_eq_false', Bool.true_eq_false, Bool.false_eq_true, beq_iff_eq, bne_iff_ne, bne_eq_false_iff_eq, beq_eq_false_iff_ne, gt_iff_lt, ge_iff_le, Int.reduceEq, Int.reduceNe, Int.reduceLT, Int.reduceLE, ne_eq, not_true_eq_false, not_false_eq_true] at hb0) <;> (try simp only [beq_true, beq_false, Bool.not_eq_true', Bool.not_eq_false'] at hb) <;> (simp only [go_sem, Nat.reduceAdd, Nat.reduceSub, Nat.reduceMul, Nat.reduceLeDiff, Nat.reduceLT, Nat.reduceEqDiff, Int.reduceToNat, Int.reduceAdd, Int.reduceMul, Int.reduceSub, Int.reduceLT, Int.reduceLE, Int.reduceEq, Int.reduceNeg, Int.reduceBEq, Int.reduceBNe, ↓reduceIte, reduceCtorEq, hlt, pvRows, pvRows_len, g6, g7, g8, hop1, hop2, eqg70, hE, List.length_map, hb, hb0] <;> try simp (disch := omega) only [wrap_of])) | (refine And.intro ?_ ?_) | refine awp_skip ?_ | refine awp_ret ?_ | refine awp_exit ?_ | refine awp_label ?_ | refine awloop_step ?_ | fail)
                  (refine panX ?_; try exact True.intro)
          · rw [if_neg hop]
            simp only [outU]
            repeat' (first | refine awp_seq ?_ | refine awp_block ?_ | refine awp_scope ?_ | ((first | refine awp_region_k fun Kn Kp hn hp => ?_ | show AWP _ _ (Code.region 12 _ true) _ _ _; refine awp_drawn_k (id := 12) [6, 7] [] [.win [0], .win [0], .win [0], .win [0], .win [0], .win [0], .eff 0, .eff 1] 2 rfl (by as_aux_lemma => kernel_rfl) fun Kn Kp hn hp => ?_ | show AWP _ _ (Code.region 15 _ true) _ _ _; refine awp_drawn_k (id := 15) [6, 7] [] [.win [0], .win [0], .win [0], .win [0], .win [0], .win [0], .eff 0, .eff 1] 2 rfl (by as_aux_lemma => kernel_rfl) fun Kn Kp hn hp => ?_ | show AWP _ _ (Code.region 16 _ true) _ _ _; refine awp_drawn_k (id := 16) [7] [] [.win [0], .win [0], .win [0], .win [0], .win [0], .win [0], .win [0], .eff 0] 1 rfl (by as_aux_lemma => kernel_rfl) fun Kn Kp hn hp => ?_ | refine oge_intro (by assumption) ?_) <;> (simp only [go_sem, Nat.reduceAdd, Nat.reduceSub, Nat.reduceMul, Nat.reduceLeDiff, Nat.reduceLT, Nat.reduceEqDiff, Int.reduceToNat, Int.reduceAdd, Int.reduceMul, Int.reduceSub, Int.reduceLT, Int.reduceLE, Int.reduceEq, Int.reduceNeg, Int.reduceBEq, Int.reduceBNe, ↓reduceIte, reduceCtorEq, hlt, pvRows_len, List.length_map] <;> try simp (disch := omega) only [wrap_of])) | (refine hn _ _ ?_; clear hn hp Kn Kp) | (refine hp _ _ _ ?_; clear hn hp Kn Kp) | (refine awp_cond rfl (fun hb => ?_) (fun hb => ?_) <;> (try simp only [decide_eq_true_eq, decide_eq_false_iff_not, Bool.not_eq_true', Bool.not_eq_false', Bool.true_eq_false, Bool.false_eq_true, beq_iff_eq, bne_iff_ne, bne_eq_false_iff_eq, beq_eq_false_iff_ne, gt_iff_lt, ge_iff_le, Int.reduceEq, Int.reduceNe, Int.reduceLT, Int.reduceLE, ne_eq, not_true_eq_false, not_false_eq_true] at hb)) | ((first | refine awg_split (fun hb => ?_) (fun hb => ?_) | refine awsg_split (fun hb => ?_) (fun hb => ?_) | refine awe_cases (must_c _ _ _) (fun hb => ?_) (fun hb => ?_)) <;> have hb0 := hb <;> (try simp only [decide_eq_true_eq, decide_eq_false_iff_not, Bool.not_eq_true', Bool.not_eq_false', Bool.true_eq_false, Bool.false_eq_true, beq_iff_eq, bne_iff_ne, bne_eq_false_iff_eq, beq_eq_false_iff_ne, gt_iff_lt, ge_iff_le, Int.reduceEq, Int.reduceNe, Int.reduceLT, Int.reduceLE, ne_eq, not_true_eq_false, not_false_eq_true] at hb0) <;> (try simp only [beq_true, beq_false, Bool.not_eq_true', Bool.not_eq_false'] at hb) <;> (simp only [go_sem, Nat.reduceAdd, Nat.reduceSub, Nat.reduceMul, Nat.reduceLeDiff, Nat.reduceLT, Nat.reduceEqDiff, Int.reduceToNat, Int.reduceAdd, Int.reduceMul, Int.reduceSub, Int.reduceLT, Int.reduceLE, Int.reduceEq, Int.reduceNeg, Int.reduceBEq, Int.reduceBNe, ↓reduceIte, reduceCtorEq, hlt, pvRows_len, List.length_map, hb, hb0] <;> try simp (disch := omega) only [wrap_of])) | (refine And.intro ?_ ?_) | refine awp_skip ?_ | refine awp_ret ?_ | refine awp_exit ?_ | refine awp_label ?_ | refine awloop_step ?_ | fail)
            all_goals first
              | omega
              | ((refine panX ?_; try exact True.intro))
        · simp only [node, outU]
          have hne0 : (((rs.length + 3 : Nat) : Int) == 0) = false := by simp; omega
          have hne2 : (((rs.length + 3 : Nat) : Int) == 2) = false := by simp; omega
          (have rr1 := dr89_12_U7; have rr2 := dr89_15_U7; have rr3 := dr89_16_U7; have ww1 := hlt; have ww2 := @pvRows_len; have ww3 := hne0; have ww4 := hne2; have cc1 := fun z1 z2 => must_pan z1 z2; refine wk ?_; clear rr1 rr2 rr3 ww1 ww2 ww3 ww4 cc1; (repeat' first | exact True.intro | refine Lf.mk ?_ ?_); all_goals intro hP)
          (refine panX ?_; try exact True.intro)
      | cons k rest =>
        obtain ⟨hk, hlt, hd, hm⟩ := drop_cons hr
        rw [hr] at h4
        have hc := fun H0 => ih k hm H0 (by have := nodes_mem hm; omega)
        cases hik : inf vs k with
        | error x =>
          simp only [hik, outU] at hc
          simp only [infL, hik] at h4
          have hinf : inf vs e = .error x := by rw [inf_eq, h4]
          rw [hinf]
          (have rr1 := dr89_12_U7; have rr2 := dr89_15_U7; have rr3 := dr89_16_U7; have ww1 := hlt; have ww2 := hk; have ww3 := @encE_eq; have cc1 := fun z1 => hc z1; refine wk ?_; clear rr1 rr2 rr3 ww1 ww2 ww3 cc1; (repeat' first | exact True.intro | refine Lf.mk ?_ ?_); all_goals intro hP)
          (refine panX ?_; try exact True.intro)
        | ok u =>
          simp only [hik, outU] at hc
          simp only [infL, hik] at h4
          (have rr1 := dr89_12_U7; have rr2 := dr89_15_U7; have rr3 := dr89_16_U7; have ww1 := hlt; have ww2 := hk; have ww3 := @encE_eq; have ww4 := @pvRows_len; have ww5 := hf1; have ww6 := hf2; have cc1 := fun z1 => hc z1; refine wk ?_; clear rr1 rr2 rr3 ww1 ww2 ww3 ww4 ww5 ww6 cc1; (repeat' first | exact True.intro | refine Lf.mk ?_ ?_); all_goals intro hP)
          refine ⟨(i + 1, acc ++ [u]), by simp only; omega, ⟨by simp [h1], by simp only; omega, ?_, ?_⟩, ?_⟩
          · intro v hv
            rcases List.mem_append.1 hv with hv | hv
            · exact h3 v hv
            · simp only [List.mem_singleton] at hv; subst hv; exact inf_ok vs hvs k _ hik
          · simp only
            rw [hd, h4]
            cases infL vs rest <;> simp
          · refine Wk.keepE 3 1 ?_ ?_ ?_ ?_
            · simp [pvRows]
            · simp
            · simp only [List.mem_cons, List.not_mem_nil, or_false, forall_eq_or_imp, forall_eq]
              refine ⟨?_, ?_, under_pvRows _⟩
              · simp [AObj.under, AV.under]
              · simp [AObj.under, AV.under]
            · simp only [List.map_cons, List.map_nil, AV.low, Fgt, true_or, or_true, and_true, true_and]
              simp
end Go.Proofs.Ytiifbdkedainnaa.Y

set_option maxHeartbeats 4000000
set_option linter.unusedVariables false
set_option linter.unusedSimpArgs false
namespace Go.Proofs.Ytiifbdkedainnaa.Y
open Go.Proofs.Ytiifbdkedainnaa.AL Go.Proofs Go
attribute [local irreducible] AWP AWL AWG AWR AWE AWX AWO AWSeq AWSG AWSR AWSO AWSE AWSF GoodP OGW OGR OGE OGX PGW PGR PGE Wk AWLoop AWPD AWLD
theorem dr61_8_U8 : Drawn Try.prog 8 (regOps 8 ((Try.f61.body).getD .skip)) [6, 7, 10] [] [.win [0, 1, 2], .win [0, 1], .win [0, 1], .win [0, 1], .win [0, 1], .win [0], .eff 0, .eff 1, .win [2], .win [2], .eff 2] 3 [] := ⟨rfl, by as_aux_lemma => kernel_rfl⟩

def startAns (l : List Vr) : AV := match ksL l with
  | some vs => .tup [chk vs, .b (decide (l.length ≤ 12))]
  | none => .tup [.pv (.sc (.pointer none)), .b false]
theorem start_run (l : List Vr) (hl : l.length ≤ 1000000) (H0 : List AObj) : ARun Try.prog 61 [.rs 5 (l.map encV)] H0 (.ret (startAns l) H0) := by
  (refine ARun.intro Try.func61 rfl Try.call61 Try.ntmps61 Try.results61 ?_; simp only [List.length_cons, List.length_nil, List.length_map, Nat.reduceAdd, Nat.reduceSub, List.replicate_succ, List.replicate_zero, List.cons_append, List.nil_append])
  (refine wk ?_; (repeat' first | exact True.intro | refine Lf.mk ?_ ?_); all_goals intro hP)
  refine awp_loop_ind (σ := Nat × List Un) (fun s => l.length - s.1)
    (fun s => s.2.length = s.1 ∧ s.1 ≤ l.length ∧ ksL l = match ksL (l.drop s.1) with | some r => some (s.2 ++ r) | none => none)
    (fun s => (.rs 5 (l.map encV) :: .any :: .any :: .any :: .p H0.length 0 :: .any :: .any :: .any :: .any :: .any :: .any :: .rs 5 (l.map encV) :: .i l.length :: .i s.1 :: .any :: .any :: .any :: .any :: .any :: .any :: .any :: .any :: .any :: .any :: .any :: .any :: .any :: .any :: .any :: .any :: .any :: .any :: .any :: .any :: .any :: .any :: .any :: .any :: .any :: .any :: []))
    (fun s => H0 ++ [.cells 117 [.os (H0.length + 1) 0 s.2.length s.2.length], .arr 119 3 (pvRows (s.2.map fun u => cU u))]) (0, [])
    ⟨rfl, Nat.zero_le _, by simp only [List.drop_zero, List.nil_append]; cases ksL l <;> rfl⟩
    ?_ ?_
  · have hg := Wk.ghostO (H0 := H0) (tm := (.rs 5 (l.map encV) :: .any :: .any :: .any :: .p H0.length 0 :: .any :: .any :: .any :: .any :: .any :: .any :: .rs 5 (l.map encV) :: .i l.length :: .i 0 :: .any :: .any :: .any :: .any :: .any :: .any :: .any :: .any :: .any :: .any :: .any :: .any :: .any :: .any :: .any :: .any :: .any :: .any :: .any :: .any :: .any :: .any :: .any :: .any :: .any :: .any :: [])) (H := H0 ++ [.cells 117 [.pv (.sc (.slice none 0 0))]]) H0.length 0 119 (sz := 3) (tt := 117) (cs := [.pv (.sc (.slice none 0 0))]) (by omega) (by simp) rfl
    refine Wk.trans (tm' := (.rs 5 (l.map encV) :: .any :: .any :: .any :: .p H0.length 0 :: .any :: .any :: .any :: .any :: .any :: .any :: .rs 5 (l.map encV) :: .i l.length :: .i 0 :: .any :: .any :: .any :: .any :: .any :: .any :: .any :: .any :: .any :: .any :: .any :: .any :: .any :: .any :: .any :: .any :: .any :: .any :: .any :: .any :: .any :: .any :: .any :: .any :: .any :: .any :: [])) (by (refine fgtX ?_; try exact True.intro)) ?_
    simpa [pvRows] using hg
  · rintro ⟨i, acc⟩ ⟨h1, h2, h4⟩
    simp only at h1 h2 h4 ⊢
    have hf1 : (acc.length + 1) * 24 ≤ 140737488355328 := by omega
    have hf2 : acc.length + 1 ≤ 9223372036854775807 := by omega
    cases hr : l.drop i with
    | nil =>
      have hlt := drop_nil hr
      rw [hr] at h4
      simp only [ksL, List.append_nil] at h4
      (have rr1 := dr61_8_U8; have ww1 := hlt; refine wk ?_; clear rr1 ww1; (repeat' first | exact True.intro | refine Lf.mk ?_ ?_); all_goals intro hP)
      unfold startAns
      rw [h4]
      have e1 : AV.toPVr (H0 ++ [.cells 117 [.os (H0.length + 1) 0 acc.length acc.length], .arr 119 3 (pvRows (acc.map fun u => cU u))]) H0.length 1 [.os (H0.length + 1) 0 acc.length acc.length] = some [.rs 3 (acc.map fun u => cU u)] := by
        have e2 : ((pvRows (acc.map fun u => cU u)).drop 0).take acc.length = pvRows (acc.map fun u => cU u) := by
          rw [List.drop_zero, List.take_of_length_le (by simp [pvRows])]
        simp only [AV.toPVr, AV.toPV, getOk, List.getElem?_cons_succ, List.getElem?_cons_zero, pvRows_len, List.length_map, true_and, show H0.length ≤ H0.length + 1 from by omega, if_true, e2]
        simp only [pvRows, toPVs_pvs, Option.map_some]
      (refine resX ?_; try exact True.intro)
      simp only [getO0, e1, List.drop_zero]
      have : decide (l.length ≤ 12) = decide ((l.length : Int) ≤ 12) := by
        apply decide_eq_decide.2; omega
      rw [this]
    | cons k rest =>
      obtain ⟨hk, hlt, hd, hm⟩ := drop_cons hr
      rw [hr] at h4
      cases hik : ofK k.unit with
      | none =>
        simp only [ksL, hik] at h4
        (have rr1 := dr61_8_U8; have ww1 := hlt; have ww2 := hk; have ww3 := @encV_eq; have ww4 := @ofAns.eq_1; have ww5 := hik; have cc1 := fun z1 z2 => of_run z1 z2; refine wk ?_; clear rr1 ww1 ww2 ww3 ww4 ww5 cc1; (repeat' first | exact True.intro | refine Lf.mk ?_ ?_); all_goals intro hP)
        unfold startAns
        rw [h4]
        (refine resX ?_; try exact True.intro)
      | some u =>
        simp only [ksL, hik] at h4
        (have rr1 := dr61_8_U8; have ww1 := hlt; have ww2 := hk; have ww3 := @encV_eq; have ww4 := @ofAns.eq_1; have ww5 := hik; have ww6 := @pvRows_len; have ww7 := hf1; have ww8 := hf2; have cc1 := fun z1 z2 => of_run z1 z2; refine wk ?_; clear rr1 ww1 ww2 ww3 ww4 ww5 ww6 ww7 ww8 cc1; (repeat' first | exact True.intro | refine Lf.mk ?_ ?_); all_goals intro hP)
        refine ⟨(i + 1, acc ++ [u]), by simp only; omega, ⟨by simp [h1], by simp only; omega, ?_⟩, ?_⟩
        · simp only
          rw [hd, h4]
          cases ksL rest <;> simp
        · refine Wk.keepE 2 1 ?_ ?_ ?_ ?_
          · simp [pvRows]
          · simp
          · simp only [List.mem_cons, List.not_mem_nil, or_false, forall_eq_or_imp, forall_eq]
            refine ⟨?_, under_pvRows _⟩
            simp [AObj.under, AV.under]
          · simp only [List.map_cons, List.map_nil, AV.low, Fgt, true_or, or_true, and_true, true_and]
            simp
end Go.Proofs.Ytiifbdkedainnaa.Y

set_option maxHeartbeats 4000000
set_option linter.unusedVariables false
set_option linter.unusedSimpArgs false
namespace Go.Proofs.Ytiifbdkedainnaa.Y
open Go.Proofs.Ytiifbdkedainnaa.AL Go.Proofs Go
attribute [local irreducible] AWP AWL AWG AWR AWE AWX AWO AWSeq AWSG AWSR AWSO AWSE AWSF GoodP OGW OGR OGE OGX PGW PGR PGE Wk AWLoop AWPD AWLD

theorem undAny : Try.prog.underlying 20 = some (.interface (Try.prog.methodsAt 20)) := by kernel_rfl
theorem undErr : Try.prog.underlying 34 = some (.int .i64) := by kernel_rfl

theorem caught_none (id : Nat) (H : List AObj) : ARunD Try.prog 73 [.p id 0] H none H := by
  refine ARunD.intro Try.func73 rfl Try.call73 Try.ntmps73 Try.results73 ?_
  simp only [List.length_cons, List.length_nil, Nat.reduceAdd, Nat.reduceSub, List.replicate_succ, List.replicate_zero, List.cons_append, List.nil_append, UM.of]
  refine awps_seq ?_
  refine awps_region ?_
  simp only [AWLS, isRecover, if_true, Bool.false_eq_true, if_false, aput, aStep, aev, List.set_cons_zero, List.set_cons_succ, List.getElem?_cons_zero, List.getElem?_cons_succ, Option.getD_some]
  refine awps_seq ?_
  refine awps_region ?_
  simp only [AWLS, isRecover, if_true, Bool.false_eq_true, if_false, aput, aStep, aev, List.set_cons_zero, List.set_cons_succ, List.getElem?_cons_zero, List.getElem?_cons_succ, Option.getD_some, AV.ofV, aEqStep, aEq, AV.sc]
  refine ⟨rfl, .bool false, fun w => ?_, ?_⟩
  · simp [execOp, aRho, aev, AV.conc, eqGuard, binOp, Op.equal, Op.maxDepth, AV.ofV, AV.sc, run_equalIn_nil_nil w 9999 20 undAny]
  · refine awps_cond rfl (fun hb => by cases hb) (fun _ => ?_)
    refine awps_skip ?_
    refine ⟨⟨_, rfl⟩, ⟨H.length, ⟨Nat.le_refl _, Nat.le_refl _, fun id o hid ho => .inl ho⟩, by simp⟩, trivial⟩

theorem caught_pan (id : Nat) (H : List AObj) (x y : Int) (hid : H[id]? = some (.cells 34 [.i y])) : ARunD Try.prog 73 [.p id 0] H (some (.pv (.sc (.iface 34 (.int .i64 x))))) (H.set id (.cells 34 [.i x])) := by
  have hlt := (List.getElem?_eq_some_iff.1 hid).1
  refine ARunD.intro Try.func73 rfl Try.call73 Try.ntmps73 Try.results73 ?_
  simp only [List.length_cons, List.length_nil, Nat.reduceAdd, Nat.reduceSub, List.replicate_succ, List.replicate_zero, List.cons_append, List.nil_append, UM.of]
  refine awps_seq ?_
  refine awps_region ?_
  simp only [AWLS, isRecover, if_true, Bool.false_eq_true, if_false, aput, aStep, aev, List.set_cons_zero, List.set_cons_succ, List.getElem?_cons_zero, List.getElem?_cons_succ, Option.getD_some]
  refine awps_seq ?_
  refine awps_region ?_
  simp only [AWLS, isRecover, if_true, Bool.false_eq_true, if_false, aput, aStep, aev, List.set_cons_zero, List.set_cons_succ, List.getElem?_cons_zero, List.getElem?_cons_succ, Option.getD_some, AV.ofV, aEqStep, aEq, AV.sc]
  refine ⟨rfl, .bool true, fun w => ?_, ?_⟩
  · simp [execOp, aRho, aev, AV.conc, eqGuard, binOp, Op.equal, Op.maxDepth, AV.ofV, AV.sc, run_equalIn_held_nil w 9999 20 34 _ undAny]
  · refine awps_cond rfl (fun _ => ?_) (fun hb => by cases hb)
    refine awps_region ?_
    simp only [AWLS, isRecover, if_true, Bool.false_eq_true, if_false, aput, aStep, aev, List.set_cons_zero, List.set_cons_succ, List.getElem?_cons_zero, List.getElem?_cons_succ, Option.getD_some, AV.ofV, AV.sc]
    refine ⟨rfl, .int .i64 x, fun w => ?_, ?_⟩
    · simp [execOp, aRho, aev, AV.conc, AV.ofV, AV.sc, Instr.typeAssert, run_underlying undErr]
    · simp only [hid, go_sem, Nat.reduceAdd, Nat.reduceSub, Nat.reduceMul, Nat.reduceLeDiff, Nat.reduceLT, Nat.reduceEqDiff, Int.reduceToNat, Int.reduceAdd, Int.reduceMul, Int.reduceSub, Int.reduceLT, Int.reduceLE, Int.reduceEq, Int.reduceNeg, Int.reduceBEq, Int.reduceBNe, ↓reduceIte, reduceCtorEq]
      have hd : Droppable H (H.set id (.cells 34 [.i x])) H.length := by
        refine ⟨Nat.le_refl _, by rw [List.length_set]; exact Nat.le_refl _, fun id' o hid' ho => ?_⟩
        by_cases e : id = id'
        · subst e
          rw [List.getElem?_set_self hlt] at ho
          simp only [Option.some.injEq] at ho
          subst ho
          refine .inr ?_
          intro c hc
          simp only [List.mem_cons, List.not_mem_nil, or_false] at hc
          subst hc
          simp only [AV.under]
        · rw [List.getElem?_set_ne e] at ho; exact .inl ho
      exact ⟨⟨_, rfl⟩, ⟨H.length, hd, by rw [List.take_of_length_le (by rw [List.length_set]; exact Nat.le_refl _)]⟩, trivial⟩
end Go.Proofs.Ytiifbdkedainnaa.Y

set_option maxHeartbeats 4000000
set_option linter.unusedVariables false
set_option linter.unusedSimpArgs false
namespace Go.Proofs.Ytiifbdkedainnaa.Y
open Go.Proofs.Ytiifbdkedainnaa.AL Go.Proofs Go
attribute [local irreducible] AWP AWL AWG AWR AWE AWX AWO AWSeq AWSG AWSR AWSO AWSE AWSF GoodP OGW OGR OGE OGX PGW PGR PGE Wk AWLoop AWPD AWLD

/-- The answer of 'Of'. -/
def ofA (k : Int) : AV := match ofK k with
  | some u => .tup [.ag (cU u), .i 0]
  | none => .tup [.ag [.i 0, .i 0, .i 0], .i 9]
theorem ROf_run (k : Int) (H0 : List AObj) : ARun Try.prog 64 [.i k] H0 (.ret (ofA k) H0) := by
  (refine ARun.intro Try.func64 rfl Try.call64 Try.ntmps64 Try.results64 ?_; simp only [List.length_cons, List.length_nil, List.length_map, Nat.reduceAdd, Nat.reduceSub, List.replicate_succ, List.replicate_zero, List.cons_append, List.nil_append])
  (refine wk ?_; (repeat' first | exact True.intro | refine Lf.mk ?_ ?_); all_goals intro hP)
  all_goals
    (refine resX ?_; try exact True.intro)
    simp [ofA, ofK, AV.low, *]
end Go.Proofs.Ytiifbdkedainnaa.Y

/- Plain laws: what 'Infer' says. -/
namespace Go.Proofs.Ytiifbdkedainnaa.AL
def inferS (l : List Vr) (e : Ex) : Except Int Un :=
  match ksL l with
  | none => .error 1
  | some vs => if 12 < l.length then .error 1 else if 60 < nodes e then .error 2 else inf vs e
def ansU : Except Int Un → AV
  | .ok u => .tup [.ag (cU u), .i 0]
  | .error x => .tup [.ag [.i 0, .i 0, .i 0], .i x]
end Go.Proofs.Ytiifbdkedainnaa.AL

set_option maxHeartbeats 4000000
set_option linter.unusedVariables false
set_option linter.unusedSimpArgs false
namespace Go.Proofs.Ytiifbdkedainnaa.Y
open Go.Proofs.Ytiifbdkedainnaa.AL Go.Proofs Go
attribute [local irreducible] AWP AWL AWG AWR AWE AWX AWO AWSeq AWSG AWSR AWSO AWSE AWSF GoodP OGW OGR OGE OGX PGW PGR PGE Wk AWLoop AWPD AWLD

end Go.Proofs.Ytiifbdkedainnaa.Y

/- Plain laws: statements. -/
set_option linter.unusedVariables false
namespace Go.Proofs.Ytiifbdkedainnaa.AL
mutual
def fine : St → Prop
  | .mk _ _ _ a b t e => nodes a ≤ 900000 ∧ nodes b ≤ 900000 ∧ fineL t ∧ fineL e
def fineL : List St → Prop
  | [] => True
  | s :: ss => fine s ∧ fineL ss
end
theorem fine_eq (s : St) : fine s = (nodes s.a ≤ 900000 ∧ nodes s.b ≤ 900000 ∧ fineL s.thn ∧ fineL s.els) := by cases s; rw [fine]; rfl
theorem fineL_app {l m : List St} (h : fineL l) (k : fineL m) : fineL (l ++ m) := by
  induction l with
  | nil => exact k
  | cons x xs ih => exact ⟨h.1, ih h.2⟩
theorem fineL_mem {l : List St} {s : St} (h : fineL l) (hm : s ∈ l) : fine s := by
  induction l with
  | nil => cases hm
  | cons x xs ih =>
    rcases List.mem_cons.1 hm with rfl | hm
    · exact h.1
    · exact ih h.2 hm
theorem fine_inner {s : St} (h : fine s) : fineL (innerL s) := by
  rw [fine_eq] at h
  unfold innerL
  split
  · exact fineL_app h.2.2.1 h.2.2.2
  · trivial

mutual
def smS : St → Bool
  | .mk k _ _ a b t e => decide (nodes a ≤ 60) && (if k = 2 then decide (nodes b ≤ 60) && (smSL t && smSL e) else true)
def smSL : List St → Bool
  | [] => true
  | s :: ss => smS s && smSL ss
end
theorem smSL_app (l m : List St) : smSL (l ++ m) = (smSL l && smSL m) := by
  induction l with
  | nil => simp [smSL]
  | cons x xs ih => simp only [List.cons_append, smSL, ih, Bool.and_assoc]
theorem smS_eq (s : St) : smS s = (decide (nodes s.a ≤ 60) && (if s.kind = 2 then decide (nodes s.b ≤ 60) else true) && smSL (innerL s)) := by
  have : smS s = (decide (nodes s.a ≤ 60) && (if s.kind = 2 then decide (nodes s.b ≤ 60) && (smSL s.thn && smSL s.els) else true)) := by cases s; rw [smS]; rfl
  rw [this]; unfold innerL
  split
  · rw [smSL_app]; simp [Bool.and_assoc]
  · simp [smSL]
end Go.Proofs.Ytiifbdkedainnaa.AL
namespace Go.Proofs.Ytiifbdkedainnaa.AL
mutual
def tot : St → Nat
  | .mk _ _ _ _ _ t e => 1 + totL t + totL e
def totL : List St → Nat
  | [] => 0
  | s :: ss => tot s + totL ss
end
theorem tot_eq (s : St) : tot s = 1 + totL s.thn + totL s.els := by cases s; rw [tot]; rfl
theorem totL_mem {l : List St} {s : St} (h : s ∈ l) : tot s ≤ totL l := by
  induction l with
  | nil => cases h
  | cons x xs ih =>
    simp only [totL]
    rcases List.mem_cons.1 h with rfl | h
    · omega
    · have := ih h; omega
theorem len_totL (l : List St) : l.length ≤ totL l := by
  induction l with
  | nil => simp
  | cons x xs ih => simp only [List.length_cons, totL]; rw [tot_eq]; omega

mutual
def stS (vs : List Un) : St → Int
  | .mk k v r a b t e =>
    if k = 1 then (if 0 ≤ v then (match vs[v.toNat]? with
      | none => 1
      | some w => match inf vs a with
        | .error x => x
        | .ok u => if u = w then 0 else 13) else 1)
    else if k = 2 then (if 1 ≤ r ∧ r ≤ 6 then (match inf vs a with
      | .error x => x
      | .ok u => match inf vs b with
        | .error x => x
        | .ok w => if u = w then (if stSL vs t = 0 then stSL vs e else stSL vs t) else 13) else 1)
    else 1
def stSL (vs : List Un) : List St → Int
  | [] => 0
  | s :: ss => if stS vs s = 0 then stSL vs ss else stS vs s
end
theorem stS_eq (vs : List Un) (s : St) : stS vs s = if s.kind = 1 then (if 0 ≤ s.var then (match vs[s.var.toNat]? with
      | none => 1
      | some w => match inf vs s.a with
        | .error x => x
        | .ok u => if u = w then 0 else 13) else 1)
    else if s.kind = 2 then (if 1 ≤ s.rel ∧ s.rel ≤ 6 then (match inf vs s.a with
      | .error x => x
      | .ok u => match inf vs s.b with
        | .error x => x
        | .ok w => if u = w then (if stSL vs s.thn = 0 then stSL vs s.els else stSL vs s.thn) else 13) else 1)
    else 1 := by cases s; rw [stS]; rfl
theorem leafS_err {vs : List Un} {op n u x : Int} (h : leafS vs op n u = .error x) : x = 1 ∨ x = 13 := by
  unfold leafS at h
  repeat' split at h
  all_goals first
    | cases h; done
    | (simp only [Except.error.injEq] at h; subst h; exact .inl rfl)
theorem comb_err {op : Int} {a b : Un} {x : Int} (h : comb op a b = .error x) : x = 1 ∨ x = 13 := by
  unfold comb at h
  repeat' split at h
  all_goals first
    | cases h; done
    | (simp only [Except.error.injEq] at h; subst h; exact .inr rfl)
theorem node_err {vs : List Un} {op n u : Int} {l : List Un} {x : Int} (h : node vs op n u l = .error x) : x = 1 ∨ x = 13 := by
  unfold node at h
  split at h
  · exact leafS_err h
  · split at h
    · exact comb_err h
    · simp only [Except.error.injEq] at h; subst h; exact .inl rfl
  · simp only [Except.error.injEq] at h; subst h; exact .inl rfl
theorem inf_err (vs : List Un) (e : Ex) : ∀ x, inf vs e = .error x → x = 1 ∨ x = 13 := by
  induction e using Ex.ind with
  | h e ih =>
    intro x hx
    rw [inf_eq] at hx
    have key : ∀ (l : List Ex), (∀ k ∈ l, ∀ x, inf vs k = .error x → x = 1 ∨ x = 13) → ∀ x, infL vs l = .error x → x = 1 ∨ x = 13 := by
      intro l
      induction l with
      | nil => intro _ x hx; simp only [infL] at hx; cases hx
      | cons y ys ihl =>
        intro hk x hx
        simp only [infL] at hx
        split at hx
        · rename_i z hz
          simp only [Except.error.injEq] at hx; subst hx
          exact hk y (by simp) _ hz
        · split at hx
          · rename_i z hz
            simp only [Except.error.injEq] at hx; subst hx
            exact ihl (fun k hk' => hk k (by simp [hk'])) _ hz
          · cases hx
    split at hx
    · rename_i z hz
      simp only [Except.error.injEq] at hx; subst hx
      exact key _ ih _ hz
    · exact node_err hx
end Go.Proofs.Ytiifbdkedainnaa.AL
namespace Go.Proofs.Ytiifbdkedainnaa.AL
def handS (vs : List Un) (l : List St) : Int := if 100 < manyL l then 2 else if smSL l = true then stSL vs l else 2
end Go.Proofs.Ytiifbdkedainnaa.AL
namespace Go.Proofs.Ytiifbdkedainnaa.AL
def evS (vs : List Un) (p : Prg) : Int × Int :=
  if handS vs p.on0 ≠ 0 then (0, handS vs p.on0) else if handS vs p.on1 ≠ 0 then (1, handS vs p.on1) else if handS vs p.on2 ≠ 0 then (2, handS vs p.on2)
  else if handS vs p.on3 ≠ 0 then (3, handS vs p.on3) else if handS vs p.on4 ≠ 0 then (4, handS vs p.on4) else (-1, 0)
def checkS (p : Prg) : Int × Int := match ksL p.vars with
  | none => (0, 1)
  | some vs => if 12 < p.vars.length then (0, 1) else evS vs p
/-- Handlers that can be counted. -/
def okP (p : Prg) : Prop :=
  (manyL p.on0 ≤ 900000 ∧ fineL p.on0) ∧ (manyL p.on1 ≤ 900000 ∧ fineL p.on1) ∧ (manyL p.on2 ≤ 900000 ∧ fineL p.on2) ∧ (manyL p.on3 ≤ 900000 ∧ fineL p.on3) ∧ (manyL p.on4 ≤ 900000 ∧ fineL p.on4)
end Go.Proofs.Ytiifbdkedainnaa.AL
namespace Go.Proofs.Ytiifbdkedainnaa.AL
def varsL : List Vr := [⟨⟨#[119]⟩, 1, 0, 0, 0⟩, ⟨⟨#[112]⟩, 4, 0, 0, 0⟩]
def isS (e : Ex) (u : Un) : Bool := match inferS varsL e with
  | .ok v => decide (v = u)
  | .error _ => false
def failsS (e : Ex) (x : Int) : Bool := match inferS varsL e with
  | .ok v => decide (0 = x) && decide (v = ⟨0, 0, 0⟩)
  | .error y => decide (y = x)
theorem inferS_err {l : List Vr} {e : Ex} {x : Int} (h : inferS l e = .error x) : x = 1 ∨ x = 2 ∨ x = 13 := by
  unfold inferS at h
  split at h
  · simp only [Except.error.injEq] at h; omega
  · split at h
    · simp only [Except.error.injEq] at h; omega
    · split at h
      · simp only [Except.error.injEq] at h; omega
      · have := inf_err _ e x h; omega
end Go.Proofs.Ytiifbdkedainnaa.AL

set_option maxHeartbeats 4000000
set_option linter.unusedVariables false
set_option linter.unusedSimpArgs false
namespace Go.Proofs.Ytiifbdkedainnaa.Y
open Go.Proofs.Ytiifbdkedainnaa.AL Go.Proofs Go
attribute [local irreducible] AWP AWL AWG AWR AWE AWX AWO AWSeq AWSG AWSR AWSO AWSE AWSF GoodP OGW OGR OGE OGX PGW PGR PGE Wk AWLoop AWPD AWLD

def outB (x : Int) (b : Bool) (H : List AObj) : AOut := match b with
  | true => .ret (.tup []) H
  | false => .pan (.pv (.sc (.iface 34 (.int .i64 x)))) H
theorem small_run : ∀ (N : Nat) (l : List St), manyL l ≤ N → manyL l ≤ 900000 → fineL l → ∀ (H0 : List AObj), ARun Try.prog 77 [.rs 13 (l.map encS)] H0 (outB 2 (smSL l) H0) := by
  intro N
  induction N with
  | zero =>
    intro l hN _ _ H0
    have hl : l = [] := by have := len_manyL l; exact List.eq_nil_of_length_eq_zero (by omega)
    subst hl
    simp only [smSL, outB]
    (refine ARun.intro Try.func77 rfl Try.call77 Try.ntmps77 Try.results77 ?_; simp only [List.length_cons, List.length_nil, List.length_map, Nat.reduceAdd, Nat.reduceSub, List.replicate_succ, List.replicate_zero, List.cons_append, List.nil_append])
    (refine wk ?_; (repeat' first | exact True.intro | refine Lf.mk ?_ ?_); all_goals intro hP)
    refine awp_loop 1 ?_
    (refine wk ?_; (repeat' first | exact True.intro | refine Lf.mk ?_ ?_); all_goals intro hP)
    (refine resX ?_; try exact True.intro)
  | succ N ihN =>
    intro l hN hM hF H0
    have hlen := len_manyL l
    (refine ARun.intro Try.func77 rfl Try.call77 Try.ntmps77 Try.results77 ?_; simp only [List.length_cons, List.length_nil, List.length_map, Nat.reduceAdd, Nat.reduceSub, List.replicate_succ, List.replicate_zero, List.cons_append, List.nil_append])
    (refine wk ?_; (repeat' first | exact True.intro | refine Lf.mk ?_ ?_); all_goals intro hP)
    refine awp_loop_ind (σ := Nat) (fun s => l.length - s) (fun s => s ≤ l.length ∧ smSL l = smSL (l.drop s))
      (fun s => (.any :: .any :: .any :: .any :: .rs 13 (l.map encS) :: .i l.length :: .i s :: .any :: .any :: .any :: .any :: .any :: .any :: .any :: .any :: .any :: .any :: .any :: .any :: .any :: .any :: .any :: .any :: .any :: .any :: .any :: .any :: .any :: .any :: .any :: .any :: []))
      (fun s => H0) 0 ⟨Nat.zero_le _, by simp⟩ (by (refine fgtX ?_; try exact True.intro)) ?_
    rintro i ⟨h1, h4⟩
    cases hr : l.drop i with
    | nil =>
      have hlt := drop_nil hr
      rw [hr] at h4
      simp only [smSL] at h4
      rw [h4]
      simp only [outB]
      (have ww1 := hlt; refine wk ?_; clear ww1; (repeat' first | exact True.intro | refine Lf.mk ?_ ?_); all_goals intro hP)
      (refine resX ?_; try exact True.intro)
    | cons k rest =>
      obtain ⟨hk, hlt, hd, hm⟩ := drop_cons hr
      have hfk := fineL_mem hF hm
      have hfi := fine_inner hfk
      rw [fine_eq] at hfk
      have hmm := manyL_mem hm
      have hli := len_manyL (innerL k)
      rw [hr] at h4
      simp only [smSL] at h4
      rw [smS_eq] at h4
      have hca := fun H0 => count_run (nodesL [k.a]) [k.a] (Nat.le_refl _) (by simp only [nodesL]; omega) 60 H0 (by omega) (by omega)
      have hcb := fun H0 => count_run (nodesL [k.b]) [k.b] (Nat.le_refl _) (by simp only [nodesL]; omega) 60 H0 (by omega) (by omega)
      have hca1 := cnt1 k.a 60 (by omega)
      have hcb1 := cnt1 k.b 60 (by omega)
      simp only [List.map_cons, List.map_nil, encE_eq] at hca hcb
      have hin := fun H0 => inner_run k H0 (by omega)
      have hrec := fun H0 => ihN (innerL k) (by omega) (by omega) hfi H0
      by_cases hA : nodes k.a ≤ 60
      · have ha : cntEL [k.a] 60 0 ≤ 60 := by
          rcases Int.lt_or_le 60 (cntEL [k.a] 60 0) with h | h
          · have := hca1.1 h; omega
          · exact h
        by_cases h2 : k.kind = 2
        · simp only [cS, h2] at hin
          by_cases hB : nodes k.b ≤ 60
          · have hb2 : cntEL [k.b] 60 0 ≤ 60 := by
              rcases Int.lt_or_le 60 (cntEL [k.b] 60 0) with h | h
              · have := hcb1.1 h; omega
              · exact h
            simp only [hA, hB, h2, decide_true, if_true, Bool.true_and] at h4
            cases hI : smSL (innerL k) with
            | true =>
              simp only [hI, Bool.true_and, outB] at h4 hrec
              (have ww1 := hlt; have ww2 := hk; have ww3 := @encS_eq; have ww4 := ha; have ww5 := hb2; have ww6 := h2; have dd1 := hca []; have dd2 := hcb []; have cc1 := fun z1 z2 => must_run z1 z2; have cc2 := fun z1 => hin z1; have cc3 := fun z1 => hrec z1; refine wk ?_; clear ww1 ww2 ww3 ww4 ww5 ww6 dd1 dd2 cc1 cc2 cc3; (repeat' first | exact True.intro | refine Lf.mk ?_ ?_); all_goals intro hP)
              refine ⟨i + 1, by omega, ⟨by omega, by rw [hd]; exact h4⟩, ?_⟩
              (refine dropX ?_; try exact True.intro)
              all_goals simp
            | false =>
              simp only [hI, Bool.false_and, outB] at h4 hrec
              rw [h4]
              simp only [outB]
              (have ww1 := hlt; have ww2 := hk; have ww3 := @encS_eq; have ww4 := ha; have ww5 := hb2; have ww6 := h2; have dd1 := hca []; have dd2 := hcb []; have cc1 := fun z1 z2 => must_run z1 z2; have cc2 := fun z1 => hin z1; have cc3 := fun z1 => hrec z1; refine wk ?_; clear ww1 ww2 ww3 ww4 ww5 ww6 dd1 dd2 cc1 cc2 cc3; (repeat' first | exact True.intro | refine Lf.mk ?_ ?_); all_goals intro hP)
              (refine panX ?_; try exact True.intro)
          · have hb2 : ¬ cntEL [k.b] 60 0 ≤ 60 := by
              have := hcb1.2 (by omega)
              omega
            simp only [hA, hB, h2, decide_true, decide_false, if_true, Bool.false_and, Bool.and_false] at h4
            rw [h4]
            simp only [outB]
            (have ww1 := hlt; have ww2 := hk; have ww3 := @encS_eq; have ww4 := ha; have ww5 := hb2; have ww6 := h2; have dd1 := hca []; have dd2 := hcb []; have cc1 := fun z1 z2 => must_run z1 z2; have cc2 := fun z1 z2 => must_pan z1 z2; refine wk ?_; clear ww1 ww2 ww3 ww4 ww5 ww6 dd1 dd2 cc1 cc2; (repeat' first | exact True.intro | refine Lf.mk ?_ ?_); all_goals intro hP)
            (refine panX ?_; try exact True.intro)
        · have h2' : (k.kind != 2) = true := by simpa using h2
          simp only [hA, h2, decide_true, if_false, Bool.true_and] at h4
          cases hI : smSL (innerL k) with
          | true =>
            simp only [hI, Bool.true_and, outB] at h4 hrec
            (have ww1 := hlt; have ww2 := hk; have ww3 := @encS_eq; have ww4 := ha; have ww5 := h2'; have dd1 := hca []; have cc1 := fun z1 z2 => must_run z1 z2; have cc2 := fun z1 => hin z1; have cc3 := fun z1 => hrec z1; refine wk ?_; clear ww1 ww2 ww3 ww4 ww5 dd1 cc1 cc2 cc3; (repeat' first | exact True.intro | refine Lf.mk ?_ ?_); all_goals intro hP)
            refine ⟨i + 1, by omega, ⟨by omega, by rw [hd]; exact h4⟩, ?_⟩
            (refine dropX ?_; try exact True.intro)
            all_goals simp
          | false =>
            simp only [hI, Bool.false_and, outB] at h4 hrec
            rw [h4]
            simp only [outB]
            (have ww1 := hlt; have ww2 := hk; have ww3 := @encS_eq; have ww4 := ha; have ww5 := h2'; have dd1 := hca []; have cc1 := fun z1 z2 => must_run z1 z2; have cc2 := fun z1 => hin z1; have cc3 := fun z1 => hrec z1; refine wk ?_; clear ww1 ww2 ww3 ww4 ww5 dd1 cc1 cc2 cc3; (repeat' first | exact True.intro | refine Lf.mk ?_ ?_); all_goals intro hP)
            (refine panX ?_; try exact True.intro)
      · have ha : ¬ cntEL [k.a] 60 0 ≤ 60 := by
          have := hca1.2 (by omega)
          omega
        simp only [hA, decide_false, Bool.false_and] at h4
        rw [h4]
        simp only [outB]
        (have ww1 := hlt; have ww2 := hk; have ww3 := @encS_eq; have ww4 := ha; have dd1 := hca []; have cc1 := fun z1 z2 => must_pan z1 z2; refine wk ?_; clear ww1 ww2 ww3 ww4 dd1 cc1; (repeat' first | exact True.intro | refine Lf.mk ?_ ?_); all_goals intro hP)
        (refine panX ?_; try exact True.intro)
end Go.Proofs.Ytiifbdkedainnaa.Y
