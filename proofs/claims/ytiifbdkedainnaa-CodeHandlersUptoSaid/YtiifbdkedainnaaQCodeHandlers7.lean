/- Part 7 of the proofs of seat Ytiifbdkedainnaa: what the texts behind it lean on (abstract memory, walks of functions, plain laws). -/
import Derived.Test.YtiifbdkedainnaaM6

set_option maxHeartbeats 8000000
set_option maxRecDepth 100000
set_option linter.unusedVariables false
set_option linter.unusedSimpArgs false
set_option linter.unusedSectionVars false
namespace Go.Proofs.Ytiifbdkedainnaa.Y
open Go.Proofs.Ytiifbdkedainnaa.AL Go.Proofs Go
attribute [local irreducible] AWP AWL AWG AWR AWE AWX AWO AWSeq AWSG AWSR AWSO AWSE AWSF GoodP OGW OGR OGE OGX PGW PGR PGE Wk AWLoop AWPD AWLD
theorem dr8_14_X21b : Drawn Try.prog 14 (regOps 14 ((Try.f8.body).getD .skip)) [12] [] [.win [0], .win [0], .win [0], .win [0], .win [0], .win [0], .win [0], .win [0], .win [0], .win [0], .win [0], .win [0], .eff 0, .win [1], .win [1]] 1 [] := ⟨rfl, by as_aux_lemma => kernel_rfl⟩

theorem drop9 (p : Prg) (k : Int) (h : 0 ≤ k) : dropP p (k.tmod 5).toNat = dropP p (k.tmod 5).toNat := rfl
theorem CodeHandlers_run (p : Prg) (which : Int) (hw0 : 0 ≤ which) (hw1 : which ≤ 255) (hp : PFine p) (H0 : List AObj) :
    ARun Try.prog 8 [.ag (cP p), .pv (.sc (.int .u8 which))] H0 (.ret (.b true) H0) := by
  have hh := fun H0 => head9_run H0
  have hf := fun H0 => hp.few H0
  cases hfew : fewB5 p with
  | false =>
    simp only [hfew] at hf
    (refine ARun.intro Try.func8 rfl Try.call8 Try.ntmps8 Try.results8 ?_; simp only [List.length_cons, List.length_nil, List.length_map, Nat.reduceAdd, Nat.reduceSub, List.replicate_succ, List.replicate_zero, List.cons_append, List.nil_append])
    (have rr1 := dr8_14_X21b; have cc1 := fun z1 => hh z1; have cc2 := fun z1 => hf z1; refine wk ?_; clear rr1 cc1 cc2; (repeat' first | exact True.intro | refine Lf.mk ?_ ?_); all_goals intro hP)
    (refine resX ?_; try exact True.intro)
  | true =>
    simp only [hfew] at hf
    have cv := fun H0 => hp.rvalid H0
    cases hval : validB p with
    | false =>
      rw [hval] at cv
      (refine ARun.intro Try.func8 rfl Try.call8 Try.ntmps8 Try.results8 ?_; simp only [List.length_cons, List.length_nil, List.length_map, Nat.reduceAdd, Nat.reduceSub, List.replicate_succ, List.replicate_zero, List.cons_append, List.nil_append])
      (have rr1 := dr8_14_X21b; have cc1 := fun z1 => hh z1; have cc2 := fun z1 => hf z1; have cc3 := fun z1 => cv z1; refine wk ?_; clear rr1 cc1 cc2 cc3; (repeat' first | exact True.intro | refine Lf.mk ?_ ?_); all_goals intro hP)
      (refine resX ?_; try exact True.intro)
    | true =>
      rw [hval] at cv
      have c1 := fun H0 => hp.comp hfew H0
      have hfa := few5_all hfew
      have c2 : ∀ (k : Nat) (H0 : List AObj), ARun Try.prog 13 [.ag (cP (dropP p k))] H0 (.ret (.tup [.ag (cC (compS (dropP p k)).1), .i (compS (dropP p k)).2]) H0) := fun k H0 =>
        CCompile_run (dropP p k) (by have := hfa.2.1; simp only [dropP, onP]; omega) hp.z hp.zv (by
          have := hfa.2.2.2
          simp only [dropP, onP]
          have z : wSL [] = 0 := rfl
          repeat' split
          all_goals omega) H0
      have hd := fun k => drop_valid hval k
      have e1 : compS p = (if (codeSs p.on0 0).length ≤ 4000 ∧ (codeSs p.on1 0).length ≤ 4000 ∧ (codeSs p.on2 0).length ≤ 4000 ∧ (codeSs p.on3 0).length ≤ 4000 ∧ (codeSs p.on4 0).length ≤ 4000
        then (⟨codeSs p.on0 0, codeSs p.on1 0, codeSs p.on2 0, codeSs p.on3 0, codeSs p.on4 0⟩, 0) else (cod0, 2)) := by unfold compS; rw [if_pos hval]
      have e2 : ∀ k, compS (dropP p k) = (if (codeSs (dropP p k).on0 0).length ≤ 4000 ∧ (codeSs (dropP p k).on1 0).length ≤ 4000 ∧ (codeSs (dropP p k).on2 0).length ≤ 4000 ∧ (codeSs (dropP p k).on3 0).length ≤ 4000 ∧ (codeSs (dropP p k).on4 0).length ≤ 4000
        then (⟨codeSs (dropP p k).on0 0, codeSs (dropP p k).on1 0, codeSs (dropP p k).on2 0, codeSs (dropP p k).on3 0, codeSs (dropP p k).on4 0⟩, 0) else (cod0, 2)) := fun k => by unfold compS; rw [if_pos (hd k)]
      have hwc : IntKind.i64.wrap which = which := wrap_of (by omega) (by omega)
      have hk : which.tmod 5 = 0 ∨ which.tmod 5 = 1 ∨ which.tmod 5 = 2 ∨ which.tmod 5 = 3 ∨ which.tmod 5 = 4 := by rw [Int.tmod_eq_emod_of_nonneg hw0]; omega
      by_cases hlen : (codeSs p.on0 0).length ≤ 4000 ∧ (codeSs p.on1 0).length ≤ 4000 ∧ (codeSs p.on2 0).length ≤ 4000 ∧ (codeSs p.on3 0).length ≤ 4000 ∧ (codeSs p.on4 0).length ≤ 4000
      · rw [if_pos hlen] at e1
        rw [e1] at c1
        have s0 := fun H => RSameI_run (codeSs p.on0 0) (codeSs p.on0 0) H
        have s1 := fun H => RSameI_run (codeSs p.on1 0) (codeSs p.on1 0) H
        have s2 := fun H => RSameI_run (codeSs p.on2 0) (codeSs p.on2 0) H
        have s3 := fun H => RSameI_run (codeSs p.on3 0) (codeSs p.on3 0) H
        have s4 := fun H => RSameI_run (codeSs p.on4 0) (codeSs p.on4 0) H
        rw [show ∀ x : List Ins, sameI x x = true from fun x => by simp [sameI]] at s0 s1 s2 s3 s4
        rcases hk with hk | hk | hk | hk | hk
        · have c3 := fun H => ARun.cv (args := [.agg [.pv (.sc (.string p.name)), .rs 5 (p.vars.map encV), .pv (.sc (.slice none 0 0)), .rs 13 (p.on1.map encS), .rs 13 (p.on2.map encS), .rs 13 (p.on3.map encS), .rs 13 (p.on4.map encS), .i p.window, .i p.pace]]) (c2 0 H) ⟨Cv.agg (by simp only [dropP, onP, if_true, if_false, Nat.zero_ne_one, Nat.reduceEqDiff, reduceCtorEq, List.map_cons, List.map_nil]; (repeat' (first | exact trivial | exact Cv.refl _ | exact Cv.nil (Nat.succ_pos _) | exact PCv.refl _ | exact PCv.nil (Nat.succ_pos _) | refine And.intro ?_ ?_ | refine Cv.agg ?_ | refine Cv.tup ?_ | refine Cv.pv (PCv.rs ?_) | refine PCv.rs ?_))), trivial⟩
          rw [e2 0, if_pos (by simp only [dropP, onP, if_true, Nat.reduceEqDiff, if_false, codeSs_nil, List.length_nil]; simp; omega)] at c3
          simp only [dropP, onP, if_true, Nat.reduceEqDiff, if_false, codeSs_nil] at c3
          clear c2 e2
          generalize codeSs p.on0 0 = C0 at *
          generalize codeSs p.on1 0 = C1 at *
          generalize codeSs p.on2 0 = C2 at *
          generalize codeSs p.on3 0 = C3 at *
          generalize codeSs p.on4 0 = C4 at *
          (refine ARun.intro Try.func8 rfl Try.call8 Try.ntmps8 Try.results8 ?_; simp only [List.length_cons, List.length_nil, List.length_map, Nat.reduceAdd, Nat.reduceSub, List.replicate_succ, List.replicate_zero, List.cons_append, List.nil_append])
          (have rr1 := dr8_14_X21b; have ww1 := hwc; have ww2 := hk; have cc1 := fun z1 => hh z1; have cc2 := fun z1 => hf z1; have cc3 := fun z1 => cv z1; have cc4 := fun z1 => c1 z1; have cc5 := fun z1 => c3 z1; refine wkS ?_; clear rr1 ww1 ww2 cc1 cc2 cc3 cc4 cc5; (repeat' first | exact True.intro | refine Lf.mk ?_ ?_); all_goals intro hP)
          refine awp_loop 6 ?_
          (have rr1 := dr8_14_X21b; have cc1 := fun z1 => s0 z1; have cc2 := fun z1 => s1 z1; have cc3 := fun z1 => s2 z1; have cc4 := fun z1 => s3 z1; have cc5 := fun z1 => s4 z1; refine wk ?_; clear rr1 cc1 cc2 cc3 cc4 cc5; (repeat' first | exact True.intro | refine Lf.mk ?_ ?_); all_goals intro hP)
          (refine resX ?_; try exact True.intro)
        · have c3 := fun H => ARun.cv (args := [.agg [.pv (.sc (.string p.name)), .rs 5 (p.vars.map encV), .rs 13 (p.on0.map encS), .pv (.sc (.slice none 0 0)), .rs 13 (p.on2.map encS), .rs 13 (p.on3.map encS), .rs 13 (p.on4.map encS), .i p.window, .i p.pace]]) (c2 1 H) ⟨Cv.agg (by simp only [dropP, onP, if_true, if_false, Nat.zero_ne_one, Nat.reduceEqDiff, reduceCtorEq, List.map_cons, List.map_nil]; (repeat' (first | exact trivial | exact Cv.refl _ | exact Cv.nil (Nat.succ_pos _) | exact PCv.refl _ | exact PCv.nil (Nat.succ_pos _) | refine And.intro ?_ ?_ | refine Cv.agg ?_ | refine Cv.tup ?_ | refine Cv.pv (PCv.rs ?_) | refine PCv.rs ?_))), trivial⟩
          rw [e2 1, if_pos (by simp only [dropP, onP, if_true, Nat.reduceEqDiff, if_false, codeSs_nil, List.length_nil]; simp; omega)] at c3
          simp only [dropP, onP, if_true, Nat.reduceEqDiff, if_false, codeSs_nil] at c3
          clear c2 e2
          generalize codeSs p.on0 0 = C0 at *
          generalize codeSs p.on1 0 = C1 at *
          generalize codeSs p.on2 0 = C2 at *
          generalize codeSs p.on3 0 = C3 at *
          generalize codeSs p.on4 0 = C4 at *
          (refine ARun.intro Try.func8 rfl Try.call8 Try.ntmps8 Try.results8 ?_; simp only [List.length_cons, List.length_nil, List.length_map, Nat.reduceAdd, Nat.reduceSub, List.replicate_succ, List.replicate_zero, List.cons_append, List.nil_append])
          (have rr1 := dr8_14_X21b; have ww1 := hwc; have ww2 := hk; have cc1 := fun z1 => hh z1; have cc2 := fun z1 => hf z1; have cc3 := fun z1 => cv z1; have cc4 := fun z1 => c1 z1; have cc5 := fun z1 => c3 z1; refine wkS ?_; clear rr1 ww1 ww2 cc1 cc2 cc3 cc4 cc5; (repeat' first | exact True.intro | refine Lf.mk ?_ ?_); all_goals intro hP)
          refine awp_loop 6 ?_
          (have rr1 := dr8_14_X21b; have cc1 := fun z1 => s0 z1; have cc2 := fun z1 => s1 z1; have cc3 := fun z1 => s2 z1; have cc4 := fun z1 => s3 z1; have cc5 := fun z1 => s4 z1; refine wk ?_; clear rr1 cc1 cc2 cc3 cc4 cc5; (repeat' first | exact True.intro | refine Lf.mk ?_ ?_); all_goals intro hP)
          (refine resX ?_; try exact True.intro)
        · have c3 := fun H => ARun.cv (args := [.agg [.pv (.sc (.string p.name)), .rs 5 (p.vars.map encV), .rs 13 (p.on0.map encS), .rs 13 (p.on1.map encS), .pv (.sc (.slice none 0 0)), .rs 13 (p.on3.map encS), .rs 13 (p.on4.map encS), .i p.window, .i p.pace]]) (c2 2 H) ⟨Cv.agg (by simp only [dropP, onP, if_true, if_false, Nat.zero_ne_one, Nat.reduceEqDiff, reduceCtorEq, List.map_cons, List.map_nil]; (repeat' (first | exact trivial | exact Cv.refl _ | exact Cv.nil (Nat.succ_pos _) | exact PCv.refl _ | exact PCv.nil (Nat.succ_pos _) | refine And.intro ?_ ?_ | refine Cv.agg ?_ | refine Cv.tup ?_ | refine Cv.pv (PCv.rs ?_) | refine PCv.rs ?_))), trivial⟩
          rw [e2 2, if_pos (by simp only [dropP, onP, if_true, Nat.reduceEqDiff, if_false, codeSs_nil, List.length_nil]; simp; omega)] at c3
          simp only [dropP, onP, if_true, Nat.reduceEqDiff, if_false, codeSs_nil] at c3
          clear c2 e2
          generalize codeSs p.on0 0 = C0 at *
          generalize codeSs p.on1 0 = C1 at *
          generalize codeSs p.on2 0 = C2 at *
          generalize codeSs p.on3 0 = C3 at *
          generalize codeSs p.on4 0 = C4 at *
          (refine ARun.intro Try.func8 rfl Try.call8 Try.ntmps8 Try.results8 ?_; simp only [List.length_cons, List.length_nil, List.length_map, Nat.reduceAdd, Nat.reduceSub, List.replicate_succ, List.replicate_zero, List.cons_append, List.nil_append])
          (have rr1 := dr8_14_X21b; have ww1 := hwc; have ww2 := hk; have cc1 := fun z1 => hh z1; have cc2 := fun z1 => hf z1; have cc3 := fun z1 => cv z1; have cc4 := fun z1 => c1 z1; have cc5 := fun z1 => c3 z1; refine wkS ?_; clear rr1 ww1 ww2 cc1 cc2 cc3 cc4 cc5; (repeat' first | exact True.intro | refine Lf.mk ?_ ?_); all_goals intro hP)
          refine awp_loop 6 ?_
          (have rr1 := dr8_14_X21b; have cc1 := fun z1 => s0 z1; have cc2 := fun z1 => s1 z1; have cc3 := fun z1 => s2 z1; have cc4 := fun z1 => s3 z1; have cc5 := fun z1 => s4 z1; refine wk ?_; clear rr1 cc1 cc2 cc3 cc4 cc5; (repeat' first | exact True.intro | refine Lf.mk ?_ ?_); all_goals intro hP)
          (refine resX ?_; try exact True.intro)
        · have c3 := fun H => ARun.cv (args := [.agg [.pv (.sc (.string p.name)), .rs 5 (p.vars.map encV), .rs 13 (p.on0.map encS), .rs 13 (p.on1.map encS), .rs 13 (p.on2.map encS), .pv (.sc (.slice none 0 0)), .rs 13 (p.on4.map encS), .i p.window, .i p.pace]]) (c2 3 H) ⟨Cv.agg (by simp only [dropP, onP, if_true, if_false, Nat.zero_ne_one, Nat.reduceEqDiff, reduceCtorEq, List.map_cons, List.map_nil]; (repeat' (first | exact trivial | exact Cv.refl _ | exact Cv.nil (Nat.succ_pos _) | exact PCv.refl _ | exact PCv.nil (Nat.succ_pos _) | refine And.intro ?_ ?_ | refine Cv.agg ?_ | refine Cv.tup ?_ | refine Cv.pv (PCv.rs ?_) | refine PCv.rs ?_))), trivial⟩
          rw [e2 3, if_pos (by simp only [dropP, onP, if_true, Nat.reduceEqDiff, if_false, codeSs_nil, List.length_nil]; simp; omega)] at c3
          simp only [dropP, onP, if_true, Nat.reduceEqDiff, if_false, codeSs_nil] at c3
          clear c2 e2
          generalize codeSs p.on0 0 = C0 at *
          generalize codeSs p.on1 0 = C1 at *
          generalize codeSs p.on2 0 = C2 at *
          generalize codeSs p.on3 0 = C3 at *
          generalize codeSs p.on4 0 = C4 at *
          (refine ARun.intro Try.func8 rfl Try.call8 Try.ntmps8 Try.results8 ?_; simp only [List.length_cons, List.length_nil, List.length_map, Nat.reduceAdd, Nat.reduceSub, List.replicate_succ, List.replicate_zero, List.cons_append, List.nil_append])
          (have rr1 := dr8_14_X21b; have ww1 := hwc; have ww2 := hk; have cc1 := fun z1 => hh z1; have cc2 := fun z1 => hf z1; have cc3 := fun z1 => cv z1; have cc4 := fun z1 => c1 z1; have cc5 := fun z1 => c3 z1; refine wkS ?_; clear rr1 ww1 ww2 cc1 cc2 cc3 cc4 cc5; (repeat' first | exact True.intro | refine Lf.mk ?_ ?_); all_goals intro hP)
          refine awp_loop 6 ?_
          (have rr1 := dr8_14_X21b; have cc1 := fun z1 => s0 z1; have cc2 := fun z1 => s1 z1; have cc3 := fun z1 => s2 z1; have cc4 := fun z1 => s3 z1; have cc5 := fun z1 => s4 z1; refine wk ?_; clear rr1 cc1 cc2 cc3 cc4 cc5; (repeat' first | exact True.intro | refine Lf.mk ?_ ?_); all_goals intro hP)
          (refine resX ?_; try exact True.intro)
        · have c3 := fun H => ARun.cv (args := [.agg [.pv (.sc (.string p.name)), .rs 5 (p.vars.map encV), .rs 13 (p.on0.map encS), .rs 13 (p.on1.map encS), .rs 13 (p.on2.map encS), .rs 13 (p.on3.map encS), .pv (.sc (.slice none 0 0)), .i p.window, .i p.pace]]) (c2 4 H) ⟨Cv.agg (by simp only [dropP, onP, if_true, if_false, Nat.zero_ne_one, Nat.reduceEqDiff, reduceCtorEq, List.map_cons, List.map_nil]; (repeat' (first | exact trivial | exact Cv.refl _ | exact Cv.nil (Nat.succ_pos _) | exact PCv.refl _ | exact PCv.nil (Nat.succ_pos _) | refine And.intro ?_ ?_ | refine Cv.agg ?_ | refine Cv.tup ?_ | refine Cv.pv (PCv.rs ?_) | refine PCv.rs ?_))), trivial⟩
          rw [e2 4, if_pos (by simp only [dropP, onP, if_true, Nat.reduceEqDiff, if_false, codeSs_nil, List.length_nil]; simp; omega)] at c3
          simp only [dropP, onP, if_true, Nat.reduceEqDiff, if_false, codeSs_nil] at c3
          clear c2 e2
          generalize codeSs p.on0 0 = C0 at *
          generalize codeSs p.on1 0 = C1 at *
          generalize codeSs p.on2 0 = C2 at *
          generalize codeSs p.on3 0 = C3 at *
          generalize codeSs p.on4 0 = C4 at *
          (refine ARun.intro Try.func8 rfl Try.call8 Try.ntmps8 Try.results8 ?_; simp only [List.length_cons, List.length_nil, List.length_map, Nat.reduceAdd, Nat.reduceSub, List.replicate_succ, List.replicate_zero, List.cons_append, List.nil_append])
          (have rr1 := dr8_14_X21b; have ww1 := hwc; have ww2 := hk; have cc1 := fun z1 => hh z1; have cc2 := fun z1 => hf z1; have cc3 := fun z1 => cv z1; have cc4 := fun z1 => c1 z1; have cc5 := fun z1 => c3 z1; refine wkS ?_; clear rr1 ww1 ww2 cc1 cc2 cc3 cc4 cc5; (repeat' first | exact True.intro | refine Lf.mk ?_ ?_); all_goals intro hP)
          refine awp_loop 6 ?_
          (have rr1 := dr8_14_X21b; have cc1 := fun z1 => s0 z1; have cc2 := fun z1 => s1 z1; have cc3 := fun z1 => s2 z1; have cc4 := fun z1 => s3 z1; have cc5 := fun z1 => s4 z1; refine wk ?_; clear rr1 cc1 cc2 cc3 cc4 cc5; (repeat' first | exact True.intro | refine Lf.mk ?_ ?_); all_goals intro hP)
          (refine resX ?_; try exact True.intro)
      · rw [if_neg hlen] at e1
        rw [e1] at c1
        rcases hk with hk | hk | hk | hk | hk
        · have c3 := fun H => ARun.cv (args := [.agg [.pv (.sc (.string p.name)), .rs 5 (p.vars.map encV), .pv (.sc (.slice none 0 0)), .rs 13 (p.on1.map encS), .rs 13 (p.on2.map encS), .rs 13 (p.on3.map encS), .rs 13 (p.on4.map encS), .i p.window, .i p.pace]]) (c2 0 H) ⟨Cv.agg (by simp only [dropP, onP, if_true, if_false, Nat.zero_ne_one, Nat.reduceEqDiff, reduceCtorEq, List.map_cons, List.map_nil]; (repeat' (first | exact trivial | exact Cv.refl _ | exact Cv.nil (Nat.succ_pos _) | exact PCv.refl _ | exact PCv.nil (Nat.succ_pos _) | refine And.intro ?_ ?_ | refine Cv.agg ?_ | refine Cv.tup ?_ | refine Cv.pv (PCv.rs ?_) | refine PCv.rs ?_))), trivial⟩
          clear c2 e2
          generalize compS (dropP p 0) = r at *
          (refine ARun.intro Try.func8 rfl Try.call8 Try.ntmps8 Try.results8 ?_; simp only [List.length_cons, List.length_nil, List.length_map, Nat.reduceAdd, Nat.reduceSub, List.replicate_succ, List.replicate_zero, List.cons_append, List.nil_append])
          (have rr1 := dr8_14_X21b; have ww1 := hwc; have ww2 := hk; have cc1 := fun z1 => hh z1; have cc2 := fun z1 => hf z1; have cc3 := fun z1 => cv z1; have cc4 := fun z1 => c1 z1; have cc5 := fun z1 => c3 z1; refine wkS ?_; clear rr1 ww1 ww2 cc1 cc2 cc3 cc4 cc5; (repeat' first | exact True.intro | refine Lf.mk ?_ ?_); all_goals intro hP)
          (refine resX ?_; try exact True.intro)
        · have c3 := fun H => ARun.cv (args := [.agg [.pv (.sc (.string p.name)), .rs 5 (p.vars.map encV), .rs 13 (p.on0.map encS), .pv (.sc (.slice none 0 0)), .rs 13 (p.on2.map encS), .rs 13 (p.on3.map encS), .rs 13 (p.on4.map encS), .i p.window, .i p.pace]]) (c2 1 H) ⟨Cv.agg (by simp only [dropP, onP, if_true, if_false, Nat.zero_ne_one, Nat.reduceEqDiff, reduceCtorEq, List.map_cons, List.map_nil]; (repeat' (first | exact trivial | exact Cv.refl _ | exact Cv.nil (Nat.succ_pos _) | exact PCv.refl _ | exact PCv.nil (Nat.succ_pos _) | refine And.intro ?_ ?_ | refine Cv.agg ?_ | refine Cv.tup ?_ | refine Cv.pv (PCv.rs ?_) | refine PCv.rs ?_))), trivial⟩
          clear c2 e2
          generalize compS (dropP p 1) = r at *
          (refine ARun.intro Try.func8 rfl Try.call8 Try.ntmps8 Try.results8 ?_; simp only [List.length_cons, List.length_nil, List.length_map, Nat.reduceAdd, Nat.reduceSub, List.replicate_succ, List.replicate_zero, List.cons_append, List.nil_append])
          (have rr1 := dr8_14_X21b; have ww1 := hwc; have ww2 := hk; have cc1 := fun z1 => hh z1; have cc2 := fun z1 => hf z1; have cc3 := fun z1 => cv z1; have cc4 := fun z1 => c1 z1; have cc5 := fun z1 => c3 z1; refine wkS ?_; clear rr1 ww1 ww2 cc1 cc2 cc3 cc4 cc5; (repeat' first | exact True.intro | refine Lf.mk ?_ ?_); all_goals intro hP)
          (refine resX ?_; try exact True.intro)
        · have c3 := fun H => ARun.cv (args := [.agg [.pv (.sc (.string p.name)), .rs 5 (p.vars.map encV), .rs 13 (p.on0.map encS), .rs 13 (p.on1.map encS), .pv (.sc (.slice none 0 0)), .rs 13 (p.on3.map encS), .rs 13 (p.on4.map encS), .i p.window, .i p.pace]]) (c2 2 H) ⟨Cv.agg (by simp only [dropP, onP, if_true, if_false, Nat.zero_ne_one, Nat.reduceEqDiff, reduceCtorEq, List.map_cons, List.map_nil]; (repeat' (first | exact trivial | exact Cv.refl _ | exact Cv.nil (Nat.succ_pos _) | exact PCv.refl _ | exact PCv.nil (Nat.succ_pos _) | refine And.intro ?_ ?_ | refine Cv.agg ?_ | refine Cv.tup ?_ | refine Cv.pv (PCv.rs ?_) | refine PCv.rs ?_))), trivial⟩
          clear c2 e2
          generalize compS (dropP p 2) = r at *
          (refine ARun.intro Try.func8 rfl Try.call8 Try.ntmps8 Try.results8 ?_; simp only [List.length_cons, List.length_nil, List.length_map, Nat.reduceAdd, Nat.reduceSub, List.replicate_succ, List.replicate_zero, List.cons_append, List.nil_append])
          (have rr1 := dr8_14_X21b; have ww1 := hwc; have ww2 := hk; have cc1 := fun z1 => hh z1; have cc2 := fun z1 => hf z1; have cc3 := fun z1 => cv z1; have cc4 := fun z1 => c1 z1; have cc5 := fun z1 => c3 z1; refine wkS ?_; clear rr1 ww1 ww2 cc1 cc2 cc3 cc4 cc5; (repeat' first | exact True.intro | refine Lf.mk ?_ ?_); all_goals intro hP)
          (refine resX ?_; try exact True.intro)
        · have c3 := fun H => ARun.cv (args := [.agg [.pv (.sc (.string p.name)), .rs 5 (p.vars.map encV), .rs 13 (p.on0.map encS), .rs 13 (p.on1.map encS), .rs 13 (p.on2.map encS), .pv (.sc (.slice none 0 0)), .rs 13 (p.on4.map encS), .i p.window, .i p.pace]]) (c2 3 H) ⟨Cv.agg (by simp only [dropP, onP, if_true, if_false, Nat.zero_ne_one, Nat.reduceEqDiff, reduceCtorEq, List.map_cons, List.map_nil]; (repeat' (first | exact trivial | exact Cv.refl _ | exact Cv.nil (Nat.succ_pos _) | exact PCv.refl _ | exact PCv.nil (Nat.succ_pos _) | refine And.intro ?_ ?_ | refine Cv.agg ?_ | refine Cv.tup ?_ | refine Cv.pv (PCv.rs ?_) | refine PCv.rs ?_))), trivial⟩
          clear c2 e2
          generalize compS (dropP p 3) = r at *
          (refine ARun.intro Try.func8 rfl Try.call8 Try.ntmps8 Try.results8 ?_; simp only [List.length_cons, List.length_nil, List.length_map, Nat.reduceAdd, Nat.reduceSub, List.replicate_succ, List.replicate_zero, List.cons_append, List.nil_append])
          (have rr1 := dr8_14_X21b; have ww1 := hwc; have ww2 := hk; have cc1 := fun z1 => hh z1; have cc2 := fun z1 => hf z1; have cc3 := fun z1 => cv z1; have cc4 := fun z1 => c1 z1; have cc5 := fun z1 => c3 z1; refine wkS ?_; clear rr1 ww1 ww2 cc1 cc2 cc3 cc4 cc5; (repeat' first | exact True.intro | refine Lf.mk ?_ ?_); all_goals intro hP)
          (refine resX ?_; try exact True.intro)
        · have c3 := fun H => ARun.cv (args := [.agg [.pv (.sc (.string p.name)), .rs 5 (p.vars.map encV), .rs 13 (p.on0.map encS), .rs 13 (p.on1.map encS), .rs 13 (p.on2.map encS), .rs 13 (p.on3.map encS), .pv (.sc (.slice none 0 0)), .i p.window, .i p.pace]]) (c2 4 H) ⟨Cv.agg (by simp only [dropP, onP, if_true, if_false, Nat.zero_ne_one, Nat.reduceEqDiff, reduceCtorEq, List.map_cons, List.map_nil]; (repeat' (first | exact trivial | exact Cv.refl _ | exact Cv.nil (Nat.succ_pos _) | exact PCv.refl _ | exact PCv.nil (Nat.succ_pos _) | refine And.intro ?_ ?_ | refine Cv.agg ?_ | refine Cv.tup ?_ | refine Cv.pv (PCv.rs ?_) | refine PCv.rs ?_))), trivial⟩
          clear c2 e2
          generalize compS (dropP p 4) = r at *
          (refine ARun.intro Try.func8 rfl Try.call8 Try.ntmps8 Try.results8 ?_; simp only [List.length_cons, List.length_nil, List.length_map, Nat.reduceAdd, Nat.reduceSub, List.replicate_succ, List.replicate_zero, List.cons_append, List.nil_append])
          (have rr1 := dr8_14_X21b; have ww1 := hwc; have ww2 := hk; have cc1 := fun z1 => hh z1; have cc2 := fun z1 => hf z1; have cc3 := fun z1 => cv z1; have cc4 := fun z1 => c1 z1; have cc5 := fun z1 => c3 z1; refine wkS ?_; clear rr1 ww1 ww2 cc1 cc2 cc3 cc4 cc5; (repeat' first | exact True.intro | refine Lf.mk ?_ ?_); all_goals intro hP)
          (refine resX ?_; try exact True.intro)
end Go.Proofs.Ytiifbdkedainnaa.Y
