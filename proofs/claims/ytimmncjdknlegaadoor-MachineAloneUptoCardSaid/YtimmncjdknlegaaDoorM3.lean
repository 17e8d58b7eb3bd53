/- Part 3 of the proofs of seat YtimmncjdknlegaaDoor: what the texts behind it lean on (abstract memory, walks of functions, plain laws). -/
import Derived.Test.YtimmncjdknlegaaDoorM2

set_option maxHeartbeats 8000000
set_option maxRecDepth 20000
set_option linter.unusedVariables false
set_option linter.unusedSimpArgs false
set_option linter.unusedSectionVars false
namespace Go.Proofs.YtimmncjdknlegaaDoor.Y
open Go.Proofs.YtimmncjdknlegaaDoor.AL Go.Proofs Go
attribute [local irreducible] AWP AWL AWG AWR AWE AWX AWO AWSeq AWSG AWSR AWSO AWSE AWSF GoodP OGW OGR OGE OGX PGW PGR PGE Wk AWLoop AWPD AWLD

abbrev agC (c : Cod) : AV := .agg [.rs 3 (c.c0.map encI), .rs 3 (c.c1.map encI), .rs 3 (c.c2.map encI), .rs 3 (c.c3.map encI), .rs 3 (c.c4.map encI)]
structure CodFine (c : Cod) : Prop where
  l0 : c.c0.length ≤ 2000000
  l1 : c.c1.length ≤ 2000000
  l2 : c.c2.length ≤ 2000000
  l3 : c.c3.length ≤ 2000000
  l4 : c.c4.length ≤ 2000000
theorem RVerify_run (c : Cod) (vars : Int) (hf : CodFine c) (H0 : List AObj) :
    ARun Tryd.prog 16 [agC c, .i vars] H0 (.ret (.b (verC c vars)) H0) := by
  by_cases h0 : vars < 0
  · have h0' : ¬ 0 ≤ vars := by omega
    (refine ARun.intro Tryd.func16 rfl Tryd.call16 Tryd.ntmps16 Tryd.results16 ?_; simp only [List.length_cons, List.length_nil, List.length_map, Nat.reduceAdd, Nat.reduceSub, List.replicate_succ, List.replicate_zero, List.cons_append, List.nil_append])
    (have ww1 := h0; refine wk ?_; clear ww1; (repeat' first | exact True.intro | refine Lf.mk ?_ ?_); all_goals intro hP)
    (refine resX ?_; try exact True.intro)
    all_goals simp [verC, h0']
  by_cases h12 : 12 < vars
  · have h12' : ¬ vars ≤ 12 := by omega
    (refine ARun.intro Tryd.func16 rfl Tryd.call16 Tryd.ntmps16 Tryd.results16 ?_; simp only [List.length_cons, List.length_nil, List.length_map, Nat.reduceAdd, Nat.reduceSub, List.replicate_succ, List.replicate_zero, List.cons_append, List.nil_append])
    (have ww1 := h0; have ww2 := h12; refine wk ?_; clear ww1 ww2; (repeat' first | exact True.intro | refine Lf.mk ?_ ?_); all_goals intro hP)
    (refine resX ?_; try exact True.intro)
    all_goals simp [verC, h12']
  have hv : 0 ≤ vars ∧ vars ≤ 12 := by omega
  have g0 := fun H0 => RHandler_run c.c0 vars hv hf.l0 H0
  have g1 := fun H0 => RHandler_run c.c1 vars hv hf.l1 H0
  have g2 := fun H0 => RHandler_run c.c2 vars hv hf.l2 H0
  have g3 := fun H0 => RHandler_run c.c3 vars hv hf.l3 H0
  have g4 := fun H0 => RHandler_run c.c4 vars hv hf.l4 H0
  cases b0 : verH c.c0 vars with
  | false =>
    simp only [b0] at g0
    (refine ARun.intro Tryd.func16 rfl Tryd.call16 Tryd.ntmps16 Tryd.results16 ?_; simp only [List.length_cons, List.length_nil, List.length_map, Nat.reduceAdd, Nat.reduceSub, List.replicate_succ, List.replicate_zero, List.cons_append, List.nil_append])
    (have ww1 := h0; have ww2 := h12; refine wk ?_; clear ww1 ww2; (repeat' first | exact True.intro | refine Lf.mk ?_ ?_); all_goals intro hP)
    refine awp_loop 6 ?_
    (have ww1 := h0; have ww2 := h12; have cc1 := fun z1 => g0 z1; refine wk ?_; clear ww1 ww2 cc1; (repeat' first | exact True.intro | refine Lf.mk ?_ ?_); all_goals intro hP)
    (refine resX ?_; try exact True.intro)
    all_goals simp [verC, b0]
  | true =>
    cases b1 : verH c.c1 vars with
    | false =>
      simp only [b0, b1] at g0 g1
      (refine ARun.intro Tryd.func16 rfl Tryd.call16 Tryd.ntmps16 Tryd.results16 ?_; simp only [List.length_cons, List.length_nil, List.length_map, Nat.reduceAdd, Nat.reduceSub, List.replicate_succ, List.replicate_zero, List.cons_append, List.nil_append])
      (have ww1 := h0; have ww2 := h12; refine wk ?_; clear ww1 ww2; (repeat' first | exact True.intro | refine Lf.mk ?_ ?_); all_goals intro hP)
      refine awp_loop 6 ?_
      (have ww1 := h0; have ww2 := h12; have cc1 := fun z1 => g0 z1; have cc2 := fun z1 => g1 z1; refine wk ?_; clear ww1 ww2 cc1 cc2; (repeat' first | exact True.intro | refine Lf.mk ?_ ?_); all_goals intro hP)
      (refine resX ?_; try exact True.intro)
      all_goals simp [verC, b0, b1]
    | true =>
      cases b2 : verH c.c2 vars with
      | false =>
        simp only [b0, b1, b2] at g0 g1 g2
        (refine ARun.intro Tryd.func16 rfl Tryd.call16 Tryd.ntmps16 Tryd.results16 ?_; simp only [List.length_cons, List.length_nil, List.length_map, Nat.reduceAdd, Nat.reduceSub, List.replicate_succ, List.replicate_zero, List.cons_append, List.nil_append])
        (have ww1 := h0; have ww2 := h12; refine wk ?_; clear ww1 ww2; (repeat' first | exact True.intro | refine Lf.mk ?_ ?_); all_goals intro hP)
        refine awp_loop 6 ?_
        (have ww1 := h0; have ww2 := h12; have cc1 := fun z1 => g0 z1; have cc2 := fun z1 => g1 z1; have cc3 := fun z1 => g2 z1; refine wk ?_; clear ww1 ww2 cc1 cc2 cc3; (repeat' first | exact True.intro | refine Lf.mk ?_ ?_); all_goals intro hP)
        (refine resX ?_; try exact True.intro)
        all_goals simp [verC, b0, b1, b2]
      | true =>
        cases b3 : verH c.c3 vars with
        | false =>
          simp only [b0, b1, b2, b3] at g0 g1 g2 g3
          (refine ARun.intro Tryd.func16 rfl Tryd.call16 Tryd.ntmps16 Tryd.results16 ?_; simp only [List.length_cons, List.length_nil, List.length_map, Nat.reduceAdd, Nat.reduceSub, List.replicate_succ, List.replicate_zero, List.cons_append, List.nil_append])
          (have ww1 := h0; have ww2 := h12; refine wk ?_; clear ww1 ww2; (repeat' first | exact True.intro | refine Lf.mk ?_ ?_); all_goals intro hP)
          refine awp_loop 6 ?_
          (have ww1 := h0; have ww2 := h12; have cc1 := fun z1 => g0 z1; have cc2 := fun z1 => g1 z1; have cc3 := fun z1 => g2 z1; have cc4 := fun z1 => g3 z1; refine wk ?_; clear ww1 ww2 cc1 cc2 cc3 cc4; (repeat' first | exact True.intro | refine Lf.mk ?_ ?_); all_goals intro hP)
          (refine resX ?_; try exact True.intro)
          all_goals simp [verC, b0, b1, b2, b3]
        | true =>
          cases b4 : verH c.c4 vars with
          | false =>
            simp only [b0, b1, b2, b3, b4] at g0 g1 g2 g3 g4
            (refine ARun.intro Tryd.func16 rfl Tryd.call16 Tryd.ntmps16 Tryd.results16 ?_; simp only [List.length_cons, List.length_nil, List.length_map, Nat.reduceAdd, Nat.reduceSub, List.replicate_succ, List.replicate_zero, List.cons_append, List.nil_append])
            (have ww1 := h0; have ww2 := h12; refine wk ?_; clear ww1 ww2; (repeat' first | exact True.intro | refine Lf.mk ?_ ?_); all_goals intro hP)
            refine awp_loop 6 ?_
            (have ww1 := h0; have ww2 := h12; have cc1 := fun z1 => g0 z1; have cc2 := fun z1 => g1 z1; have cc3 := fun z1 => g2 z1; have cc4 := fun z1 => g3 z1; have cc5 := fun z1 => g4 z1; refine wk ?_; clear ww1 ww2 cc1 cc2 cc3 cc4 cc5; (repeat' first | exact True.intro | refine Lf.mk ?_ ?_); all_goals intro hP)
            (refine resX ?_; try exact True.intro)
            all_goals simp [verC, b0, b1, b2, b3, b4]
          | true =>
            simp only [b0, b1, b2, b3, b4] at g0 g1 g2 g3 g4
            (refine ARun.intro Tryd.func16 rfl Tryd.call16 Tryd.ntmps16 Tryd.results16 ?_; simp only [List.length_cons, List.length_nil, List.length_map, Nat.reduceAdd, Nat.reduceSub, List.replicate_succ, List.replicate_zero, List.cons_append, List.nil_append])
            (have ww1 := h0; have ww2 := h12; refine wk ?_; clear ww1 ww2; (repeat' first | exact True.intro | refine Lf.mk ?_ ?_); all_goals intro hP)
            refine awp_loop 6 ?_
            (have ww1 := h0; have ww2 := h12; have cc1 := fun z1 => g0 z1; have cc2 := fun z1 => g1 z1; have cc3 := fun z1 => g2 z1; have cc4 := fun z1 => g3 z1; have cc5 := fun z1 => g4 z1; refine wk ?_; clear ww1 ww2 cc1 cc2 cc3 cc4 cc5; (repeat' first | exact True.intro | refine Lf.mk ?_ ?_); all_goals intro hP)
            (refine resX ?_; try exact True.intro)
            all_goals simp [verC, b0, b1, b2, b3, b4, hv.1, hv.2]
end Go.Proofs.YtimmncjdknlegaaDoor.Y

set_option maxHeartbeats 8000000
set_option maxRecDepth 20000
set_option linter.unusedVariables false
set_option linter.unusedSimpArgs false
set_option linter.unusedSectionVars false
namespace Go.Proofs.YtimmncjdknlegaaDoor.Y
open Go.Proofs.YtimmncjdknlegaaDoor.AL Go.Proofs Go
attribute [local irreducible] AWP AWL AWG AWR AWE AWX AWO AWSeq AWSG AWSR AWSO AWSE AWSF GoodP OGW OGR OGE OGX PGW PGR PGE Wk AWLoop AWPD AWLD

theorem inside_run' (n low high : Int) (H0 : List AObj) :
    ARun Tryd.prog 35 [.i n, .i low, .i high] H0 (.ret (.b (decide (low ≤ n) && decide (n ≤ high))) H0) := by
  by_cases h1 : low ≤ n <;> by_cases h2 : n ≤ high <;> simp only [h1, h2, decide_true, decide_false, Bool.and_true, Bool.and_false, Bool.and_self] <;> have h1' := h1 <;> have h2' := h2 <;>
  ((refine ARun.intro Tryd.func35 rfl Tryd.call35 Tryd.ntmps35 Tryd.results35 ?_; simp only [List.length_cons, List.length_nil, List.length_map, Nat.reduceAdd, Nat.reduceSub, List.replicate_succ, List.replicate_zero, List.cons_append, List.nil_append])
   (have ww1 := h1; have ww2 := h2; refine wkO ?_; clear ww1 ww2; (repeat' first | exact True.intro | refine Lf.mk ?_ ?_); all_goals intro hP)
   (refine resX ?_; try exact True.intro))
theorem CVerify_run (c : Cod) (vars : Int) (hf : CodFine c) (H0 : List AObj) :
    ARun Tryd.prog 27 [agC c, .i vars] H0 (.ret (.b (verC c vars)) H0) := by
  have hin := fun H0 => inside_run' vars 0 12 H0
  by_cases hv : 0 ≤ vars ∧ vars ≤ 12
  · have g0 := fun H0 => handler_run c.c0 vars hv hf.l0 H0
    have g1 := fun H0 => handler_run c.c1 vars hv hf.l1 H0
    have g2 := fun H0 => handler_run c.c2 vars hv hf.l2 H0
    have g3 := fun H0 => handler_run c.c3 vars hv hf.l3 H0
    have g4 := fun H0 => handler_run c.c4 vars hv hf.l4 H0
    have hd : (decide (0 ≤ vars) && decide (vars ≤ 12)) = true := by simp [hv]
    simp only [hd] at hin
    (refine ARun.intro Tryd.func27 rfl Tryd.call27 Tryd.ntmps27 Tryd.results27 ?_; simp only [List.length_cons, List.length_nil, List.length_map, Nat.reduceAdd, Nat.reduceSub, List.replicate_succ, List.replicate_zero, List.cons_append, List.nil_append])
    (have cc1 := fun z1 => hin z1; refine wk ?_; clear cc1; (repeat' first | exact True.intro | refine Lf.mk ?_ ?_); all_goals intro hP)
    refine awp_loop 6 ?_
    (have cc1 := fun z1 => g0 z1; have cc2 := fun z1 => g1 z1; have cc3 := fun z1 => g2 z1; have cc4 := fun z1 => g3 z1; have cc5 := fun z1 => g4 z1; refine wk ?_; clear cc1 cc2 cc3 cc4 cc5; (repeat' first | exact True.intro | refine Lf.mk ?_ ?_); all_goals intro hP)
    all_goals ((refine resX ?_; try exact True.intro); simp_all [verC])
  · have hd : (decide (0 ≤ vars) && decide (vars ≤ 12)) = false := by simp; omega
    have hd' : decide (0 ≤ vars ∧ vars ≤ 12) = false := by simp; omega
    simp only [hd] at hin
    (refine ARun.intro Tryd.func27 rfl Tryd.call27 Tryd.ntmps27 Tryd.results27 ?_; simp only [List.length_cons, List.length_nil, List.length_map, Nat.reduceAdd, Nat.reduceSub, List.replicate_succ, List.replicate_zero, List.cons_append, List.nil_append])
    (have cc1 := fun z1 => hin z1; refine wk ?_; clear cc1; (repeat' first | exact True.intro | refine Lf.mk ?_ ?_); all_goals intro hP)
    refine awp_loop 6 ?_
    (refine wk ?_; (repeat' first | exact True.intro | refine Lf.mk ?_ ?_); all_goals intro hP)
    (refine resX ?_; try exact True.intro)
    simp [verC, hd']
end Go.Proofs.YtimmncjdknlegaaDoor.Y

set_option maxHeartbeats 8000000
set_option maxRecDepth 20000
set_option linter.unusedVariables false
set_option linter.unusedSimpArgs false
set_option linter.unusedSectionVars false
namespace Go.Proofs.YtimmncjdknlegaaDoor.Y
open Go.Proofs.YtimmncjdknlegaaDoor.AL Go.Proofs Go
attribute [local irreducible] AWP AWL AWG AWR AWE AWX AWO AWSeq AWSG AWSR AWSO AWSE AWSF GoodP OGW OGR OGE OGX PGW PGR PGE Wk AWLoop AWPD AWLD

def shortS (c : Cod) (n : Int) : Bool := decide ((c.c0.length : Int) ≤ n) && (decide ((c.c1.length : Int) ≤ n) && (decide ((c.c2.length : Int) ≤ n) && (decide ((c.c3.length : Int) ≤ n) && decide ((c.c4.length : Int) ≤ n))))
theorem RShort_run (c : Cod) (n : Int) (H0 : List AObj) :
    ARun Tryd.prog 8 [agC c, .i n] H0 (.ret (.b (shortS c n)) H0) := by
  by_cases b0 : n < c.c0.length
  · have a0 : ¬ (c.c0.length : Int) ≤ n := by omega
    (refine ARun.intro Tryd.func8 rfl Tryd.call8 Tryd.ntmps8 Tryd.results8 ?_; simp only [List.length_cons, List.length_nil, List.length_map, Nat.reduceAdd, Nat.reduceSub, List.replicate_succ, List.replicate_zero, List.cons_append, List.nil_append])
    (refine wk ?_; (repeat' first | exact True.intro | refine Lf.mk ?_ ?_); all_goals intro hP)
    refine awp_loop 6 ?_
    (have ww1 := b0; refine wk ?_; clear ww1; (repeat' first | exact True.intro | refine Lf.mk ?_ ?_); all_goals intro hP)
    (refine resX ?_; try exact True.intro)
    all_goals simp [shortS, a0]
  by_cases b1 : n < c.c1.length
  · have a1 : ¬ (c.c1.length : Int) ≤ n := by omega
    (refine ARun.intro Tryd.func8 rfl Tryd.call8 Tryd.ntmps8 Tryd.results8 ?_; simp only [List.length_cons, List.length_nil, List.length_map, Nat.reduceAdd, Nat.reduceSub, List.replicate_succ, List.replicate_zero, List.cons_append, List.nil_append])
    (refine wk ?_; (repeat' first | exact True.intro | refine Lf.mk ?_ ?_); all_goals intro hP)
    refine awp_loop 6 ?_
    (have ww1 := b0; have ww2 := b1; refine wk ?_; clear ww1 ww2; (repeat' first | exact True.intro | refine Lf.mk ?_ ?_); all_goals intro hP)
    (refine resX ?_; try exact True.intro)
    all_goals simp [shortS, a1]
  by_cases b2 : n < c.c2.length
  · have a2 : ¬ (c.c2.length : Int) ≤ n := by omega
    (refine ARun.intro Tryd.func8 rfl Tryd.call8 Tryd.ntmps8 Tryd.results8 ?_; simp only [List.length_cons, List.length_nil, List.length_map, Nat.reduceAdd, Nat.reduceSub, List.replicate_succ, List.replicate_zero, List.cons_append, List.nil_append])
    (refine wk ?_; (repeat' first | exact True.intro | refine Lf.mk ?_ ?_); all_goals intro hP)
    refine awp_loop 6 ?_
    (have ww1 := b0; have ww2 := b1; have ww3 := b2; refine wk ?_; clear ww1 ww2 ww3; (repeat' first | exact True.intro | refine Lf.mk ?_ ?_); all_goals intro hP)
    (refine resX ?_; try exact True.intro)
    all_goals simp [shortS, a2]
  by_cases b3 : n < c.c3.length
  · have a3 : ¬ (c.c3.length : Int) ≤ n := by omega
    (refine ARun.intro Tryd.func8 rfl Tryd.call8 Tryd.ntmps8 Tryd.results8 ?_; simp only [List.length_cons, List.length_nil, List.length_map, Nat.reduceAdd, Nat.reduceSub, List.replicate_succ, List.replicate_zero, List.cons_append, List.nil_append])
    (refine wk ?_; (repeat' first | exact True.intro | refine Lf.mk ?_ ?_); all_goals intro hP)
    refine awp_loop 6 ?_
    (have ww1 := b0; have ww2 := b1; have ww3 := b2; have ww4 := b3; refine wk ?_; clear ww1 ww2 ww3 ww4; (repeat' first | exact True.intro | refine Lf.mk ?_ ?_); all_goals intro hP)
    (refine resX ?_; try exact True.intro)
    all_goals simp [shortS, a3]
  by_cases b4 : n < c.c4.length
  · have a4 : ¬ (c.c4.length : Int) ≤ n := by omega
    (refine ARun.intro Tryd.func8 rfl Tryd.call8 Tryd.ntmps8 Tryd.results8 ?_; simp only [List.length_cons, List.length_nil, List.length_map, Nat.reduceAdd, Nat.reduceSub, List.replicate_succ, List.replicate_zero, List.cons_append, List.nil_append])
    (refine wk ?_; (repeat' first | exact True.intro | refine Lf.mk ?_ ?_); all_goals intro hP)
    refine awp_loop 6 ?_
    (have ww1 := b0; have ww2 := b1; have ww3 := b2; have ww4 := b3; have ww5 := b4; refine wk ?_; clear ww1 ww2 ww3 ww4 ww5; (repeat' first | exact True.intro | refine Lf.mk ?_ ?_); all_goals intro hP)
    (refine resX ?_; try exact True.intro)
    all_goals simp [shortS, a4]
  have a0 : (c.c0.length : Int) ≤ n := by omega
  have a1 : (c.c1.length : Int) ≤ n := by omega
  have a2 : (c.c2.length : Int) ≤ n := by omega
  have a3 : (c.c3.length : Int) ≤ n := by omega
  have a4 : (c.c4.length : Int) ≤ n := by omega
  (refine ARun.intro Tryd.func8 rfl Tryd.call8 Tryd.ntmps8 Tryd.results8 ?_; simp only [List.length_cons, List.length_nil, List.length_map, Nat.reduceAdd, Nat.reduceSub, List.replicate_succ, List.replicate_zero, List.cons_append, List.nil_append])
  (refine wk ?_; (repeat' first | exact True.intro | refine Lf.mk ?_ ?_); all_goals intro hP)
  refine awp_loop 6 ?_
  (have ww1 := b0; have ww2 := b1; have ww3 := b2; have ww4 := b3; have ww5 := b4; refine wk ?_; clear ww1 ww2 ww3 ww4 ww5; (repeat' first | exact True.intro | refine Lf.mk ?_ ?_); all_goals intro hP)
  (refine resX ?_; try exact True.intro)
  all_goals simp [shortS, a0, a1, a2, a3, a4]
end Go.Proofs.YtimmncjdknlegaaDoor.Y

set_option maxHeartbeats 8000000
set_option maxRecDepth 20000
set_option linter.unusedVariables false
set_option linter.unusedSimpArgs false
set_option linter.unusedSectionVars false
namespace Go.Proofs.YtimmncjdknlegaaDoor.Y
open Go.Proofs.YtimmncjdknlegaaDoor.AL Go.Proofs Go
attribute [local irreducible] AWP AWL AWG AWR AWE AWX AWO AWSeq AWSG AWSR AWSO AWSE AWSF GoodP OGW OGR OGE OGX PGW PGR PGE Wk AWLoop AWPD AWLD
theorem dr13_6_X10p : Drawn Tryd.prog 6 (regOps 6 ((Tryd.f13.body).getD .skip)) [] [] [.win [0], .win [0], .win [0], .win [0], .win [0], .win [0], .win [0], .win [0], .win [0]] 0 [] := ⟨rfl, by as_aux_lemma => kernel_rfl⟩

theorem Ints_run (a b : List Int) (hl : a.length ≤ 2000000) (H0 : List AObj) :
    ARun Tryd.prog 13 [.rs 1 (rI a), .rs 1 (rI b)] H0 (.ret (.b (a == b)) H0) := by
  by_cases hlen : a.length = b.length
  · have hlb : ((a.length : Int) != (b.length : Int)) = false := by simp [hlen]
    have e0 : (a == b) = (a.drop 0 == b.drop 0) := rfl
    (refine ARun.intro Tryd.func13 rfl Tryd.call13 Tryd.ntmps13 Tryd.results13 ?_; simp only [List.length_cons, List.length_nil, List.length_map, Nat.reduceAdd, Nat.reduceSub, List.replicate_succ, List.replicate_zero, List.cons_append, List.nil_append])
    (have rr1 := dr13_6_X10p; have ww1 := hlb; refine wk ?_; clear rr1 ww1; (repeat' first | exact True.intro | refine Lf.mk ?_ ?_); all_goals intro hP)
    refine awp_loop_ind (σ := Nat) (fun s => a.length - s) (fun s => s ≤ a.length ∧ (a == b) = (a.drop s == b.drop s))
      (fun s => (.rs 1 (rI a) :: .rs 1 (rI b) :: .any :: .any :: .any :: .i s :: .any :: .any :: .any :: .any :: .any :: .any :: .any :: .any :: .any :: .any :: .any :: .any :: .any :: .any :: .any :: .any :: .any :: .any :: .any :: .any :: []))
      (fun s => H0) 0 ⟨Nat.zero_le _, by simp⟩ (by (refine fgtX ?_; try exact True.intro)) ?_
    rintro i ⟨h1, h4⟩
    cases hr : a.drop i with
    | nil =>
      have hlt := drop_nil hr
      have hrb : b.drop i = [] := by rw [List.drop_eq_nil_iff] at hr ⊢; omega
      rw [hr, hrb] at h4
      rw [h4]
      (have rr1 := dr13_6_X10p; have ww1 := hlt; refine wk ?_; clear rr1 ww1; (repeat' first | exact True.intro | refine Lf.mk ?_ ?_); all_goals intro hP)
      (refine resX ?_; try exact True.intro)
    | cons x rest =>
      obtain ⟨hx, hlt, hd, hm⟩ := drop_cons hr
      have hib : i < b.length := by omega
      have hltb : (i : Int) < b.length := by omega
      obtain ⟨y, hy⟩ := get_some (hs := b) (i := i) hib
      have hrb : b.drop i = y :: b.drop (i + 1) := by rw [List.drop_eq_getElem_cons hib]; congr 1; rw [List.getElem?_eq_getElem hib] at hy; exact Option.some.inj hy
      have hx' : (rI a)[i]? = some [.i x] := by rw [List.getElem?_map, hx]; rfl
      have hy' : (rI b)[i]? = some [.i y] := by rw [List.getElem?_map, hy]; rfl
      have hw : IntKind.i64.wrap ((i : Int) + 1) = ((i + 1 : Nat) : Int) := by rw [wrap_of (by omega) (by omega)]; omega
      rw [hr, hrb, List.cons_beq_cons] at h4
      by_cases hxy : x = y
      · subst hxy
        rw [beq_self_eq_true, Bool.true_and, ← hd] at h4
        (have rr1 := dr13_6_X10p; have ww1 := hlt; have ww2 := hltb; have ww3 := hx'; have ww4 := hy'; have ww5 := hx; have ww6 := hy; have ww7 := hw; refine wkS ?_; clear rr1 ww1 ww2 ww3 ww4 ww5 ww6 ww7; (repeat' first | exact True.intro | refine Lf.mk ?_ ?_); all_goals intro hP)
        refine ⟨i + 1, by omega, ⟨by omega, h4⟩, ?_⟩
        (refine fgtX ?_; try exact True.intro)
      · have hxb : (x != y) = true := by simpa using hxy
        have hxb' : (x == y) = false := by simpa using hxy
        rw [hxb', Bool.false_and] at h4
        rw [h4]
        (have rr1 := dr13_6_X10p; have ww1 := hlt; have ww2 := hltb; have ww3 := hx'; have ww4 := hy'; have ww5 := hx; have ww6 := hy; have ww7 := hw; have ww8 := hxb; refine wkS ?_; clear rr1 ww1 ww2 ww3 ww4 ww5 ww6 ww7 ww8; (repeat' first | exact True.intro | refine Lf.mk ?_ ?_); all_goals intro hP)
        (refine resX ?_; try exact True.intro)
  · have hlb : ((a.length : Int) != (b.length : Int)) = true := by simp; omega
    have e : (a == b) = false := by
      rw [beq_eq_false_iff_ne]; intro e; exact hlen (by rw [e])
    rw [e]
    (refine ARun.intro Tryd.func13 rfl Tryd.call13 Tryd.ntmps13 Tryd.results13 ?_; simp only [List.length_cons, List.length_nil, List.length_map, Nat.reduceAdd, Nat.reduceSub, List.replicate_succ, List.replicate_zero, List.cons_append, List.nil_append])
    (have rr1 := dr13_6_X10p; have ww1 := hlb; refine wk ?_; clear rr1 ww1; (repeat' first | exact True.intro | refine Lf.mk ?_ ?_); all_goals intro hP)
    (refine resX ?_; try exact True.intro)
end Go.Proofs.YtimmncjdknlegaaDoor.Y

/- Plain laws: the stack machine as a whole. -/
set_option linter.unusedVariables false
namespace Go.Proofs.YtimmncjdknlegaaDoor.AL
def callOk (x : Cal) : Bool := decide (0 ≤ x.ev ∧ x.ev < 5 ∧ 1 ≤ x.i0 ∧ x.i0 ≤ 1000 ∧ 1 ≤ x.i1 ∧ x.i1 ≤ 10000000 ∧ 1 ≤ x.i2 ∧ x.i2 ≤ 10000 ∧ 0 ≤ x.i3 ∧ x.i3 ≤ 4000)
def stOk : List Vr → List Int → Bool
  | v :: vs, n :: ns => decide (-1000000000000 ≤ n ∧ n ≤ 1000000000000 ∧ v.low ≤ n ∧ n ≤ v.high) && stOk vs ns
  | [], [] => true
  | _, _ => false
theorem stOk_len : ∀ {vs : List Vr} {st : List Int}, stOk vs st = true → st.length = vs.length
  | [], [], _ => rfl
  | [], _ :: _, h => by simp [stOk] at h
  | _ :: _, [], h => by simp [stOk] at h
  | v :: vs, n :: ns, h => by
    simp only [stOk, Bool.and_eq_true] at h
    simp [stOk_len h.2]
theorem stOk_isV : ∀ {vs : List Vr} {st : List Int}, stOk vs st = true → ∀ n ∈ st, isV n
  | [], [], _, n, hn => by cases hn
  | [], _ :: _, h, _, _ => by simp [stOk] at h
  | _ :: _, [], h, _, _ => by simp [stOk] at h
  | v :: vs, m :: ns, h, n, hn => by
    simp only [stOk, Bool.and_eq_true, decide_eq_true_eq] at h
    rcases List.mem_cons.1 hn with rfl | hn
    · exact ⟨h.1.1, h.1.2.1⟩
    · exact stOk_isV h.2 n hn
def hand (c : Cod) (ev : Int) : List Ins := if ev = 0 then c.c0 else if ev = 1 then c.c1 else if ev = 2 then c.c2 else if ev = 3 then c.c3 else c.c4
def fitsS (vs : List Vr) (c : Cod) (st : List Int) (x : Cal) : Bool := verC c vs.length && (stOk vs st && callOk x)
def runS (vs : List Vr) (c : Cod) (st : List Int) (x : Cal) : Except Int (List Int) × Nat := traceS vs x.i0 x.i1 x.i2 x.i3 (hand c x.ev) ((hand c x.ev).length + 1) ⟨st, [], 0⟩ 0
def runE (r : Except Int (List Int)) : Int := match r with
  | .ok _ => 0
  | .error e => e
def runL (r : Except Int (List Int)) : List Int := match r with
  | .ok s => s
  | .error _ => []
theorem hand_ver {c : Cod} {vars ev : Int} (h : verC c vars = true) (h0 : 0 ≤ ev) (h5 : ev < 5) : verH (hand c ev) vars = true := by
  unfold verC at h
  simp only [Bool.and_eq_true] at h
  obtain ⟨_, h0, h1, h2, h3, h4⟩ := h
  unfold hand
  repeat' split
  all_goals assumption
theorem call_in {x : Cal} (h : callOk x = true) : ∀ j, isV (inS x.i0 x.i1 x.i2 x.i3 j) := by
  intro j
  unfold callOk at h
  have h := of_decide_eq_true h
  unfold inS isV
  repeat' split
  all_goals omega
section
variable {vs : List Vr} {i0 i1 i2 i3 : Int} {l : List Ins}
theorem trace_none {f n : Nat} {c : Cf} (h : l[c.at']? = none) : traceS vs i0 i1 i2 i3 l f c n = (.ok c.now, n) := by
  cases f with
  | zero => rfl
  | succ f => simp only [traceS, h]
theorem trace_err {f n : Nat} {c : Cf} {x : Ins} {e : Int} (h : l[c.at']? = some x) (hs : stepS vs i0 i1 i2 i3 x c = .error e) : traceS vs i0 i1 i2 i3 l (f + 1) c n = (.error e, n + 1) := by
  simp only [traceS, h, hs]
theorem trace_ok {f n : Nat} {c c' : Cf} {x : Ins} (h : l[c.at']? = some x) (hs : stepS vs i0 i1 i2 i3 x c = .ok c') : traceS vs i0 i1 i2 i3 l (f + 1) c n = traceS vs i0 i1 i2 i3 l f c' (n + 1) := by
  simp only [traceS, h, hs]
/-- Enough fuel, and one more: the same. -/
structure Going (vs : List Vr) (i0 i1 i2 i3 : Int) (l : List Ins) (ht : Nat → Int) (c : Cf) (n : Nat) : Prop where
  ok : CfOk vs c
  ht : (c.stk.length : Int) = ht c.at'
  le : c.at' ≤ l.length
  nle : n ≤ c.at'
end
end Go.Proofs.YtimmncjdknlegaaDoor.AL
namespace Go.Proofs.YtimmncjdknlegaaDoor.AL
/-- Where a run of a handler stands. -/
structure TInv (vs : List Vr) (i0 i1 i2 i3 : Int) (l : List Ins) (ht : Nat → Int) (st : List Int) (c : Cf) (n : Nat) : Prop where
  ok : CfOk vs c
  ht : (c.stk.length : Int) = ht c.at'
  le : c.at' ≤ l.length
  nle : n ≤ c.at'
  tr : ∃ f, l.length < f + c.at' ∧ traceS vs i0 i1 i2 i3 l (l.length + 1) ⟨st, [], 0⟩ 0 = traceS vs i0 i1 i2 i3 l f c n
section
variable {vs : List Vr} {i0 i1 i2 i3 : Int} {l : List Ins} {ht : Nat → Int} {st : List Int} {c c' : Cf} {n : Nat} {x : Ins}
theorem TInv.start (hc : Cert l vs.length ht) (hs : stOk vs st = true) : TInv vs i0 i1 i2 i3 l ht st ⟨st, [], 0⟩ 0 :=
  ⟨⟨stOk_len hs, stOk_isV hs, fun _ h => by cases h⟩, by simp [hc.zero], Nat.zero_le _, Nat.le_refl _, ⟨l.length + 1, by simp, rfl⟩⟩
theorem TInv.next (hc : Cert l vs.length ht) (hi : ∀ j, isV (inS i0 i1 i2 i3 j)) (t : TInv vs i0 i1 i2 i3 l ht st c n) (hx : l[c.at']? = some x) (hs : stepS vs i0 i1 i2 i3 x c = .ok c') :
    TInv vs i0 i1 i2 i3 l ht st c' (n + 1) ∧ l.length - c'.at' < l.length - c.at' := by
  obtain ⟨a1, a2, a3, a4⟩ := stepS_cert hc hx t.ok t.ht hi hs
  obtain ⟨f, f1, f2⟩ := t.tr
  have hlt := (List.getElem?_eq_some_iff.1 hx).1
  obtain ⟨g, rfl⟩ : ∃ g, f = g + 1 := ⟨f - 1, by omega⟩
  have := t.nle
  exact ⟨⟨a1, a2, a4, by omega, ⟨g, by omega, by rw [f2, trace_ok hx hs]⟩⟩, by omega⟩
theorem TInv.err (t : TInv vs i0 i1 i2 i3 l ht st c n) (hx : l[c.at']? = some x) {e : Int} (hs : stepS vs i0 i1 i2 i3 x c = .error e) :
    traceS vs i0 i1 i2 i3 l (l.length + 1) ⟨st, [], 0⟩ 0 = (.error e, n + 1) := by
  obtain ⟨f, f1, f2⟩ := t.tr
  have hlt := (List.getElem?_eq_some_iff.1 hx).1
  obtain ⟨g, rfl⟩ : ∃ g, f = g + 1 := ⟨f - 1, by omega⟩
  rw [f2, trace_err hx hs]
theorem TInv.stop (t : TInv vs i0 i1 i2 i3 l ht st c n) (hx : l[c.at']? = none) : traceS vs i0 i1 i2 i3 l (l.length + 1) ⟨st, [], 0⟩ 0 = (.ok c.now, n) := by
  obtain ⟨f, f1, f2⟩ := t.tr
  rw [f2, trace_none hx]
end
end Go.Proofs.YtimmncjdknlegaaDoor.AL
namespace Go.Proofs.YtimmncjdknlegaaDoor.AL
def dV : Vr := ⟨default, 0, 0, 0, 0⟩
theorem getEV {l : List Vr} {k : Nat} (h : k < l.length) : l[k]? = some (l.getD k dV) := by
  rw [List.getD_eq_getElem?_getD, List.getElem?_eq_getElem h]; rfl
theorem takes_2 {op : Int} (h : op = 12 ∨ (op ≠ 1 ∧ op ≠ 2 ∧ op ≠ 3 ∧ op ≠ 11 ∧ op ≠ 13)) : takes op = 2 := by
  unfold takes; rw [if_neg (by omega), if_neg (by omega)]
end Go.Proofs.YtimmncjdknlegaaDoor.AL
namespace Go.Proofs.YtimmncjdknlegaaDoor.AL
def refRunS (vs : List Vr) (c : Cod) (st : List Int) (x : Cal) : Except Int (List Int) := if fitsS vs c st x = true then (runS vs c st x).1 else .error 1
def stepsN (vs : List Vr) (c : Cod) (st : List Int) (x : Cal) : Int := if fitsS vs c st x = true then ((runS vs c st x).2 : Int) else 0
def stepsE (vs : List Vr) (c : Cod) (st : List Int) (x : Cal) : Int := if fitsS vs c st x = true then 0 else 1
theorem verC_vars {c : Cod} {vars : Int} (h : verC c vars = true) : 0 ≤ vars ∧ vars ≤ 12 := by
  unfold verC at h
  simp only [Bool.and_eq_true, decide_eq_true_eq] at h
  exact h.1
theorem fits_all {vs : List Vr} {c : Cod} {st : List Int} {x : Cal} (h : fitsS vs c st x = true) : verC c vs.length = true ∧ stOk vs st = true ∧ callOk x = true := by
  unfold fitsS at h
  simp only [Bool.and_eq_true] at h
  exact h
theorem call_ev {x : Cal} (h : callOk x = true) : 0 ≤ x.ev ∧ x.ev < 5 := by
  unfold callOk at h
  have h := of_decide_eq_true h
  exact ⟨h.1, h.2.1⟩
theorem hand_get {c : Cod} {ev : Int} (h : 0 ≤ ev ∧ ev < 5) : [AV.rs 3 (c.c0.map encI), .rs 3 (c.c1.map encI), .rs 3 (c.c2.map encI), .rs 3 (c.c3.map encI), .rs 3 (c.c4.map encI)][ev.toNat]? = some (.rs 3 ((hand c ev).map encI)) := by
  have : ev = 0 ∨ ev = 1 ∨ ev = 2 ∨ ev = 3 ∨ ev = 4 := by omega
  rcases this with rfl | rfl | rfl | rfl | rfl <;> rfl
end Go.Proofs.YtimmncjdknlegaaDoor.AL

set_option maxHeartbeats 8000000
set_option maxRecDepth 20000
set_option linter.unusedVariables false
set_option linter.unusedSimpArgs false
set_option linter.unusedSectionVars false
namespace Go.Proofs.YtimmncjdknlegaaDoor.Y
open Go.Proofs.YtimmncjdknlegaaDoor.AL Go.Proofs Go
attribute [local irreducible] AWP AWL AWG AWR AWE AWX AWO AWSeq AWSG AWSR AWSO AWSE AWSF GoodP OGW OGR OGE OGX PGW PGR PGE Wk AWLoop AWPD AWLD
theorem dr30_5_X11c : Drawn Tryd.prog 5 (regOps 5 ((Tryd.f30.body).getD .skip)) [] [] [.win [0], .win [0], .win [0], .win [0], .win [0], .win [0], .win [0], .win [0], .win [0], .win [0], .win [0], .win [0], .win [0], .win [0], .win [0], .win [0], .win [0], .win [0], .win [0], .win [0], .win [0], .win [0], .win [0], .win [0], .win [0], .win [0], .win [0]] 0 [] := ⟨rfl, by as_aux_lemma => kernel_rfl⟩

abbrev agL (x : Cal) : AV := .agg [.i x.ev, .i x.i0, .i x.i1, .i x.i2, .i x.i3]
theorem RCall_run (x : Cal) (H0 : List AObj) :
    ARun Tryd.prog 30 [agL x] H0 (.ret (.b (callOk x)) H0) := by
  (refine ARun.intro Tryd.func30 rfl Tryd.call30 Tryd.ntmps30 Tryd.results30 ?_; simp only [List.length_cons, List.length_nil, List.length_map, Nat.reduceAdd, Nat.reduceSub, List.replicate_succ, List.replicate_zero, List.cons_append, List.nil_append])
  (have rr1 := dr30_5_X11c; refine wkO ?_; clear rr1; (repeat' first | exact True.intro | refine Lf.mk ?_ ?_); all_goals intro hP)
  refine awp_loop 5 ?_
  (have rr1 := dr30_5_X11c; refine wkO ?_; clear rr1; (repeat' first | exact True.intro | refine Lf.mk ?_ ?_); all_goals intro hP)
  all_goals ((try rw [show callOk x = false from decide_neg' (by omega)]); (try rw [show callOk x = true from decide_pos' (by omega)]); (refine resX ?_; try exact True.intro); try (rw [show callOk x = decide (x.ev < 5) from decide_eq_decide.2 ⟨fun h => by omega, fun h => by omega⟩]))
end Go.Proofs.YtimmncjdknlegaaDoor.Y

set_option maxHeartbeats 8000000
set_option maxRecDepth 20000
set_option linter.unusedVariables false
set_option linter.unusedSimpArgs false
namespace Go.Proofs.YtimmncjdknlegaaDoor.Y
open Go.Proofs.YtimmncjdknlegaaDoor.AL Go.Proofs Go
attribute [local irreducible] AWP AWL AWG AWR AWE AWX AWO AWSeq AWSG AWSR AWSO AWSE AWSF GoodP OGW OGR OGE OGX PGW PGR PGE Wk AWLoop AWPD AWLD
theorem dr47_1_X10b : Drawn Tryd.prog 1 (regOps 1 ((Tryd.f47.body).getD .skip)) [14, 15] [] [.win [0], .win [0], .win [0], .win [0, 1], .win [0, 1], .win [0, 1], .win [0, 1], .win [0, 1], .win [0, 1], .win [0, 1], .win [0, 1], .win [0, 1], .win [0, 1], .win [0], .eff 0, .eff 1, .win [2], .win [2]] 2 [] := ⟨rfl, by as_aux_lemma => kernel_rfl⟩

theorem down_run (a b : Int) (ha : isV a) (hb' : b ≠ 0) (H0 : List AObj) : ARun Tryd.prog 48 [.i a, .i b] H0 (.ret (.i (downS a b)) H0) := by
  have h1 := tdiv_bd ha hb'
  have w1 : IntKind.i64.wrap (a.tdiv b) = a.tdiv b := wrap_of (by omega) (by omega)
  have w2 : IntKind.i64.wrap (a.tdiv b - 1) = a.tdiv b - 1 := wrap_of (by omega) (by omega)
  unfold downS
  by_cases hm : a.tmod b = 0
  · have hm' : (a.tmod b != 0) = false := by simp [hm]
    (refine ARun.intro Tryd.func48 rfl Tryd.call48 Tryd.ntmps48 Tryd.results48 ?_; simp only [List.length_cons, List.length_nil, List.length_map, Nat.reduceAdd, Nat.reduceSub, List.replicate_succ, List.replicate_zero, List.cons_append, List.nil_append])
    (have ww1 := hb'; have ww2 := hm'; have ww3 := w1; refine wk ?_; clear ww1 ww2 ww3; (repeat' first | exact True.intro | refine Lf.mk ?_ ?_); all_goals intro hP)
    (refine resX ?_; try exact True.intro)
    simp [hm]
  · have hm' : (a.tmod b != 0) = true := by simpa using hm
    cases hd : (decide (a < 0) == decide (b < 0)) with
    | true =>
      have hd' : (decide (a < 0) != decide (b < 0)) = false := by simp only [bne, hd]; rfl
      (refine ARun.intro Tryd.func48 rfl Tryd.call48 Tryd.ntmps48 Tryd.results48 ?_; simp only [List.length_cons, List.length_nil, List.length_map, Nat.reduceAdd, Nat.reduceSub, List.replicate_succ, List.replicate_zero, List.cons_append, List.nil_append])
      (have ww1 := hb'; have ww2 := hm'; have ww3 := hd; have ww4 := w1; refine wk ?_; clear ww1 ww2 ww3 ww4; (repeat' first | exact True.intro | refine Lf.mk ?_ ?_); all_goals intro hP)
      (refine resX ?_; try exact True.intro)
      all_goals simp only [hd', Bool.false_eq_true, and_false, if_false]
    | false =>
      have hd' : (decide (a < 0) != decide (b < 0)) = true := by simp only [bne, hd]; rfl
      (refine ARun.intro Tryd.func48 rfl Tryd.call48 Tryd.ntmps48 Tryd.results48 ?_; simp only [List.length_cons, List.length_nil, List.length_map, Nat.reduceAdd, Nat.reduceSub, List.replicate_succ, List.replicate_zero, List.cons_append, List.nil_append])
      (have ww1 := hb'; have ww2 := hm'; have ww3 := hd; have ww4 := w1; have ww5 := w2; refine wk ?_; clear ww1 ww2 ww3 ww4 ww5; (repeat' first | exact True.intro | refine Lf.mk ?_ ?_); all_goals intro hP)
      (refine resX ?_; try exact True.intro)
      all_goals simp only [hd', hm, ne_eq, not_false_eq_true, and_self, if_true]
theorem product_run (a b : Int) (ha : isV a) (hb' : isV b) (H0 : List AObj) : ARun Tryd.prog 47 [.i a, .i b] H0 (.ret (.i (prodS a b)) H0) := by
  by_cases h0 : a = 0
  · subst h0
    have w1 : IntKind.i64.wrap (0 * b) = 0 := by rw [Int.zero_mul]; rfl
    (refine ARun.intro Tryd.func47 rfl Tryd.call47 Tryd.ntmps47 Tryd.results47 ?_; simp only [List.length_cons, List.length_nil, List.length_map, Nat.reduceAdd, Nat.reduceSub, List.replicate_succ, List.replicate_zero, List.cons_append, List.nil_append])
    (have rr1 := dr47_1_X10b; have ww1 := w1; refine wk ?_; clear rr1 ww1; (repeat' first | exact True.intro | refine Lf.mk ?_ ?_); all_goals intro hP)
    (refine resX ?_; try exact True.intro)
    all_goals simp [prodS]
  · have h0' : (a != 0) = true := by simpa using h0
    have w1 : IntKind.i64.wrap (-a) = -a := wrap_of (by omega) (by omega)
    have hm0 : ¬ (if a < -a then -a else a) = 0 := by split <;> omega
    have hp : 0 < (if a < -a then -a else a) := by split <;> omega
    generalize hm : (if a < -a then -a else a) = m at hm0 hp
    have b1 := tdiv_bd (a := -1000000000000) (b := m) ⟨by omega, by omega⟩ hm0
    have b2 := tdiv_bd (a := 1000000000000) (b := m) ⟨by omega, by omega⟩ hm0
    have w2 : IntKind.i64.wrap ((-1000000000000 : Int).tdiv m) = (-1000000000000 : Int).tdiv m := wrap_of (by omega) (by omega)
    have w3 : IntKind.i64.wrap ((1000000000000 : Int).tdiv m) = (1000000000000 : Int).tdiv m := wrap_of (by omega) (by omega)
    have hin := fun H0 => in_run ((-1000000000000 : Int).tdiv m) ((1000000000000 : Int).tdiv m) b H0
    by_cases hbd : b < (-1000000000000 : Int).tdiv m ∨ (1000000000000 : Int).tdiv m < b
    · have hd : (decide ((-1000000000000 : Int).tdiv m ≤ b) && decide (b ≤ (1000000000000 : Int).tdiv m)) = false := by
        rcases hbd with h | h
        · rw [decide_eq_false (Int.not_le.2 h)]; rfl
        · rw [decide_eq_false (p := b ≤ _) (Int.not_le.2 h), Bool.and_false]
      simp only [hd] at hin
      (refine ARun.intro Tryd.func47 rfl Tryd.call47 Tryd.ntmps47 Tryd.results47 ?_; simp only [List.length_cons, List.length_nil, List.length_map, Nat.reduceAdd, Nat.reduceSub, List.replicate_succ, List.replicate_zero, List.cons_append, List.nil_append])
      (have rr1 := dr47_1_X10b; have ww1 := h0'; have ww2 := w1; have ww3 := hm; have ww4 := hm0; have ww5 := w2; have ww6 := w3; have dd1 := hin []; refine wk ?_; clear rr1 ww1 ww2 ww3 ww4 ww5 ww6 dd1; (repeat' first | exact True.intro | refine Lf.mk ?_ ?_); all_goals intro hP)
      (refine resX ?_; try exact True.intro)
      all_goals rw [prodS_out h0 hm hbd]
    · have hd1 : (-1000000000000 : Int).tdiv m ≤ b := Int.not_lt.1 fun h => hbd (.inl h)
      have hd2 : b ≤ (1000000000000 : Int).tdiv m := Int.not_lt.1 fun h => hbd (.inr h)
      have hd : (decide ((-1000000000000 : Int).tdiv m ≤ b) && decide (b ≤ (1000000000000 : Int).tdiv m)) = true := by rw [decide_eq_true hd1, decide_eq_true hd2]; rfl
      simp only [hd] at hin
      have hmul := prod_fits hm hp hd1 hd2
      have w4 : IntKind.i64.wrap (a * b) = a * b := wrap_of (by omega) (by omega)
      (refine ARun.intro Tryd.func47 rfl Tryd.call47 Tryd.ntmps47 Tryd.results47 ?_; simp only [List.length_cons, List.length_nil, List.length_map, Nat.reduceAdd, Nat.reduceSub, List.replicate_succ, List.replicate_zero, List.cons_append, List.nil_append])
      (have rr1 := dr47_1_X10b; have ww1 := h0'; have ww2 := w1; have ww3 := hm; have ww4 := hm0; have ww5 := w2; have ww6 := w3; have ww7 := w4; have dd1 := hin []; refine wk ?_; clear rr1 ww1 ww2 ww3 ww4 ww5 ww6 ww7 dd1; (repeat' first | exact True.intro | refine Lf.mk ?_ ?_); all_goals intro hP)
      (refine resX ?_; try exact True.intro)
      all_goals rw [prodS_in h0 hm hbd]
theorem holds_run (a rel b : Int) (hr : 1 ≤ rel ∧ rel ≤ 6) (H0 : List AObj) : ARun Tryd.prog 40 [.i a, .i rel, .i b] H0 (.ret (.b (holdsS a rel b)) H0) := by
  have hc : rel = 1 ∨ rel = 2 ∨ rel = 3 ∨ rel = 4 ∨ rel = 5 ∨ rel = 6 := by omega
  clear hr
  rcases hc with rfl | rfl | rfl | rfl | rfl | rfl
  all_goals
    (refine ARun.intro Tryd.func40 rfl Tryd.call40 Tryd.ntmps40 Tryd.results40 ?_; simp only [List.length_cons, List.length_nil, List.length_map, Nat.reduceAdd, Nat.reduceSub, List.replicate_succ, List.replicate_zero, List.cons_append, List.nil_append])
    (refine wk ?_; (repeat' first | exact True.intro | refine Lf.mk ?_ ?_); all_goals intro hP)
    (refine resX ?_; try exact True.intro)
    all_goals simp [holdsS]
end Go.Proofs.YtimmncjdknlegaaDoor.Y

set_option maxHeartbeats 8000000
set_option maxRecDepth 20000
set_option linter.unusedVariables false
set_option linter.unusedSimpArgs false
set_option linter.unusedSectionVars false
namespace Go.Proofs.YtimmncjdknlegaaDoor.Y
open Go.Proofs.YtimmncjdknlegaaDoor.AL Go.Proofs Go
attribute [local irreducible] AWP AWL AWG AWR AWE AWX AWO AWSeq AWSG AWSR AWSO AWSE AWSF GoodP OGW OGR OGE OGX PGW PGR PGE Wk AWLoop AWPD AWLD

section
variable (vs : List Vr) (is n : Nat) (i0 i1 i2 i3 : Int) (stk : List Int) (hs : stk.length = 64) (at' st : Int) (id : Nat)
include hs
theorem calc4_ok (k : Nat) (a b : Int) (hka : stk[k]? = some a) (hkb : stk[k + 1]? = some b) (ha : isV a) (hb' : isV b) (H0 : List AObj) (hid : H0[id]? = some (.cells 54 (mc vs is n i0 i1 i2 i3 stk (k + 1 + 1 : Nat) at' st))) (hb0' : is < H0.length) (hv : isV (a + b)) :
    ARun Tryd.prog 41 [.p id 0, .i 4] H0 (.ret (.i 0) (H0.set id (.cells 54 (mc vs is n i0 i1 i2 i3 (stk.set k (a + b)) (k + 1 : Nat) at' st)))) := by
  have hk64 : k + 1 < 64 := by have := (List.getElem?_eq_some_iff.1 hkb).1; omega
  have w1 : IntKind.i64.wrap (a + b) = a + b := wrap_of (by omega) (by omega)
  (refine ARun.intro Tryd.func41 rfl Tryd.call41 Tryd.ntmps41 Tryd.results41 ?_; simp only [List.length_cons, List.length_nil, List.length_map, Nat.reduceAdd, Nat.reduceSub, List.replicate_succ, List.replicate_zero, List.cons_append, List.nil_append])
  repeat' (first | refine awp_seq ?_ | refine awp_block ?_ | refine awp_scope ?_ | ((first | refine awp_region_k fun Kn Kp hn hp => ?_ | refine oge_intro (by assumption) ?_ | (show AWE _ _ _ _ _ _ _ _ _; first | refine awe_intro (pop_run vs is n i0 i1 i2 i3 stk hs at' st id (k + 1) b hkb _ hid hb0') ?_ | refine awe_intro (pop_run vs is n i0 i1 i2 i3 stk hs at' st id k a hka _ (getSet hid _) (by simpa using hb0')) ?_ | refine awe_intro (push_run vs is n i0 i1 i2 i3 stk hs at' st id k (a + b) (by omega) _ (getSet hid _) (by simpa using hb0') hv) ?_) | (show AWSF _ _ _ _ _ _ _ _ _ _ _; first | refine awsf_intro (pop_run vs is n i0 i1 i2 i3 stk hs at' st id (k + 1) b hkb _ hid hb0') (fun hrun => ?_) | refine awsf_intro (pop_run vs is n i0 i1 i2 i3 stk hs at' st id k a hka _ (getSet hid _) (by simpa using hb0')) (fun hrun => ?_) | refine awsf_intro (push_run vs is n i0 i1 i2 i3 stk hs at' st id k (a + b) (by omega) _ (getSet hid _) (by simpa using hb0') hv) (fun hrun => ?_)) | (show OGE _ _ _ _ _ _ _; first | refine oge_intro (pop_run vs is n i0 i1 i2 i3 stk hs at' st id (k + 1) b hkb _ hid hb0') ?_ | refine oge_intro (pop_run vs is n i0 i1 i2 i3 stk hs at' st id k a hka _ (getSet hid _) (by simpa using hb0')) ?_ | refine oge_intro (push_run vs is n i0 i1 i2 i3 stk hs at' st id k (a + b) (by omega) _ (getSet hid _) (by simpa using hb0') hv) ?_) | (show AWSE _ _ _ _ _ _ _ _ _ _ _; first | refine awse_intro (pop_run vs is n i0 i1 i2 i3 stk hs at' st id (k + 1) b hkb _ hid hb0') (fun hrun => ?_) | refine awse_intro (pop_run vs is n i0 i1 i2 i3 stk hs at' st id k a hka _ (getSet hid _) (by simpa using hb0')) (fun hrun => ?_) | refine awse_intro (push_run vs is n i0 i1 i2 i3 stk hs at' st id k (a + b) (by omega) _ (getSet hid _) (by simpa using hb0') hv) (fun hrun => ?_)) | (show PGE _ _ _ _ _; first | refine pge_intro (pop_run vs is n i0 i1 i2 i3 stk hs at' st id (k + 1) b hkb _ hid hb0') (fun tm' => ?_) | refine pge_intro (pop_run vs is n i0 i1 i2 i3 stk hs at' st id k a hka _ (getSet hid _) (by simpa using hb0')) (fun tm' => ?_) | refine pge_intro (push_run vs is n i0 i1 i2 i3 stk hs at' st id k (a + b) (by omega) _ (getSet hid _) (by simpa using hb0') hv) (fun tm' => ?_))) <;> (simp only [go_sem, Nat.reduceAdd, Nat.reduceSub, Nat.reduceMul, Nat.reduceLeDiff, Nat.reduceLT, Nat.reduceEqDiff, Int.reduceToNat, Int.reduceAdd, Int.reduceMul, Int.reduceSub, Int.reduceLT, Int.reduceLE, Int.reduceEq, Int.reduceNeg, Int.reduceBEq, Int.reduceBNe, ↓reduceIte, reduceCtorEq, hid, getSet hid, List.set_set, List.length_set, w1] <;> try simp (disch := omega) only [wrap_of])) | (refine hn _ _ ?_; clear hn hp Kn Kp) | (refine hp _ _ _ ?_; clear hn hp Kn Kp) | (refine awp_cond rfl (fun hb => ?_) (fun hb => ?_) <;> (try simp only [decide_eq_true_eq, decide_eq_false_iff_not, Bool.not_eq_true', Bool.not_eq_false', Bool.true_eq_false, Bool.false_eq_true, beq_iff_eq, bne_iff_ne, bne_eq_false_iff_eq, beq_eq_false_iff_ne, gt_iff_lt, ge_iff_le, Int.reduceEq, Int.reduceNe, Int.reduceLT, Int.reduceLE, ne_eq, not_true_eq_false, not_false_eq_true] at hb)) | ((first | refine awg_split (fun hb => ?_) (fun hb => ?_) | refine awsg_split (fun hb => ?_) (fun hb => ?_)) <;> have hb0 := hb <;> (try simp only [decide_eq_true_eq, decide_eq_false_iff_not, Bool.not_eq_true', Bool.not_eq_false', Bool.true_eq_false, Bool.false_eq_true, beq_iff_eq, bne_iff_ne, bne_eq_false_iff_eq, beq_eq_false_iff_ne, gt_iff_lt, ge_iff_le, Int.reduceEq, Int.reduceNe, Int.reduceLT, Int.reduceLE, ne_eq, not_true_eq_false, not_false_eq_true] at hb0) <;> (try simp only [beq_true, beq_false, Bool.not_eq_true', Bool.not_eq_false'] at hb) <;> (simp only [go_sem, Nat.reduceAdd, Nat.reduceSub, Nat.reduceMul, Nat.reduceLeDiff, Nat.reduceLT, Nat.reduceEqDiff, Int.reduceToNat, Int.reduceAdd, Int.reduceMul, Int.reduceSub, Int.reduceLT, Int.reduceLE, Int.reduceEq, Int.reduceNeg, Int.reduceBEq, Int.reduceBNe, ↓reduceIte, reduceCtorEq, hid, getSet hid, List.set_set, List.length_set, w1, hb, hb0] <;> try simp (disch := omega) only [wrap_of])) | (refine And.intro ?_ ?_) | refine awp_skip ?_ | refine awp_ret ?_ | refine awp_exit ?_ | refine awp_label ?_ | refine awloop_step ?_ | fail)
  ((try simp only [go_sem, Nat.reduceAdd, Nat.reduceSub, Nat.reduceMul, Nat.reduceLeDiff, Nat.reduceLT, Nat.reduceEqDiff, Int.reduceToNat, Int.reduceAdd, Int.reduceMul, Int.reduceSub, Int.reduceLT, Int.reduceLE, Int.reduceEq, Int.reduceNeg, Int.reduceBEq, Int.reduceBNe, ↓reduceIte, reduceCtorEq]); (first | refine ⟨_, rfl, _, rfl, Fin.set0 1 ?_ ?_⟩ | refine ⟨_, rfl, _, rfl, Fin.set 1 ?_ ?_⟩))
  · exact mc_under hb0'
  · simp only [AV.low]
theorem calc4_bad (k : Nat) (a b : Int) (hka : stk[k]? = some a) (hkb : stk[k + 1]? = some b) (ha : isV a) (hb' : isV b) (H0 : List AObj) (hid : H0[id]? = some (.cells 54 (mc vs is n i0 i1 i2 i3 stk (k + 1 + 1 : Nat) at' st))) (hb0' : is < H0.length) (hv : ¬ isV (a + b)) :
    ARun Tryd.prog 41 [.p id 0, .i 4] H0 (.ret (.i 3) (H0.set id (.cells 54 (mc vs is n i0 i1 i2 i3 stk (k : Nat) at' st)))) := by
  have hk64 : k + 1 < 64 := by have := (List.getElem?_eq_some_iff.1 hkb).1; omega
  have w1 : IntKind.i64.wrap (a + b) = a + b := wrap_of (by omega) (by omega)
  (refine ARun.intro Tryd.func41 rfl Tryd.call41 Tryd.ntmps41 Tryd.results41 ?_; simp only [List.length_cons, List.length_nil, List.length_map, Nat.reduceAdd, Nat.reduceSub, List.replicate_succ, List.replicate_zero, List.cons_append, List.nil_append])
  repeat' (first | refine awp_seq ?_ | refine awp_block ?_ | refine awp_scope ?_ | ((first | refine awp_region_k fun Kn Kp hn hp => ?_ | refine oge_intro (by assumption) ?_ | (show AWE _ _ _ _ _ _ _ _ _; first | refine awe_intro (pop_run vs is n i0 i1 i2 i3 stk hs at' st id (k + 1) b hkb _ hid hb0') ?_ | refine awe_intro (pop_run vs is n i0 i1 i2 i3 stk hs at' st id k a hka _ (getSet hid _) (by simpa using hb0')) ?_ | refine awe_intro (push_bad id (a + b) _ hv) ?_) | (show AWSF _ _ _ _ _ _ _ _ _ _ _; first | refine awsf_intro (pop_run vs is n i0 i1 i2 i3 stk hs at' st id (k + 1) b hkb _ hid hb0') (fun hrun => ?_) | refine awsf_intro (pop_run vs is n i0 i1 i2 i3 stk hs at' st id k a hka _ (getSet hid _) (by simpa using hb0')) (fun hrun => ?_) | refine awsf_intro (push_bad id (a + b) _ hv) (fun hrun => ?_)) | (show OGE _ _ _ _ _ _ _; first | refine oge_intro (pop_run vs is n i0 i1 i2 i3 stk hs at' st id (k + 1) b hkb _ hid hb0') ?_ | refine oge_intro (pop_run vs is n i0 i1 i2 i3 stk hs at' st id k a hka _ (getSet hid _) (by simpa using hb0')) ?_ | refine oge_intro (push_bad id (a + b) _ hv) ?_) | (show AWSE _ _ _ _ _ _ _ _ _ _ _; first | refine awse_intro (pop_run vs is n i0 i1 i2 i3 stk hs at' st id (k + 1) b hkb _ hid hb0') (fun hrun => ?_) | refine awse_intro (pop_run vs is n i0 i1 i2 i3 stk hs at' st id k a hka _ (getSet hid _) (by simpa using hb0')) (fun hrun => ?_) | refine awse_intro (push_bad id (a + b) _ hv) (fun hrun => ?_)) | (show PGE _ _ _ _ _; first | refine pge_intro (pop_run vs is n i0 i1 i2 i3 stk hs at' st id (k + 1) b hkb _ hid hb0') (fun tm' => ?_) | refine pge_intro (pop_run vs is n i0 i1 i2 i3 stk hs at' st id k a hka _ (getSet hid _) (by simpa using hb0')) (fun tm' => ?_) | refine pge_intro (push_bad id (a + b) _ hv) (fun tm' => ?_))) <;> (simp only [go_sem, Nat.reduceAdd, Nat.reduceSub, Nat.reduceMul, Nat.reduceLeDiff, Nat.reduceLT, Nat.reduceEqDiff, Int.reduceToNat, Int.reduceAdd, Int.reduceMul, Int.reduceSub, Int.reduceLT, Int.reduceLE, Int.reduceEq, Int.reduceNeg, Int.reduceBEq, Int.reduceBNe, ↓reduceIte, reduceCtorEq, hid, getSet hid, List.set_set, List.length_set, w1] <;> try simp (disch := omega) only [wrap_of])) | (refine hn _ _ ?_; clear hn hp Kn Kp) | (refine hp _ _ _ ?_; clear hn hp Kn Kp) | (refine awp_cond rfl (fun hb => ?_) (fun hb => ?_) <;> (try simp only [decide_eq_true_eq, decide_eq_false_iff_not, Bool.not_eq_true', Bool.not_eq_false', Bool.true_eq_false, Bool.false_eq_true, beq_iff_eq, bne_iff_ne, bne_eq_false_iff_eq, beq_eq_false_iff_ne, gt_iff_lt, ge_iff_le, Int.reduceEq, Int.reduceNe, Int.reduceLT, Int.reduceLE, ne_eq, not_true_eq_false, not_false_eq_true] at hb)) | ((first | refine awg_split (fun hb => ?_) (fun hb => ?_) | refine awsg_split (fun hb => ?_) (fun hb => ?_)) <;> have hb0 := hb <;> (try simp only [decide_eq_true_eq, decide_eq_false_iff_not, Bool.not_eq_true', Bool.not_eq_false', Bool.true_eq_false, Bool.false_eq_true, beq_iff_eq, bne_iff_ne, bne_eq_false_iff_eq, beq_eq_false_iff_ne, gt_iff_lt, ge_iff_le, Int.reduceEq, Int.reduceNe, Int.reduceLT, Int.reduceLE, ne_eq, not_true_eq_false, not_false_eq_true] at hb0) <;> (try simp only [beq_true, beq_false, Bool.not_eq_true', Bool.not_eq_false'] at hb) <;> (simp only [go_sem, Nat.reduceAdd, Nat.reduceSub, Nat.reduceMul, Nat.reduceLeDiff, Nat.reduceLT, Nat.reduceEqDiff, Int.reduceToNat, Int.reduceAdd, Int.reduceMul, Int.reduceSub, Int.reduceLT, Int.reduceLE, Int.reduceEq, Int.reduceNeg, Int.reduceBEq, Int.reduceBNe, ↓reduceIte, reduceCtorEq, hid, getSet hid, List.set_set, List.length_set, w1, hb, hb0] <;> try simp (disch := omega) only [wrap_of])) | (refine And.intro ?_ ?_) | refine awp_skip ?_ | refine awp_ret ?_ | refine awp_exit ?_ | refine awp_label ?_ | refine awloop_step ?_ | fail)
  ((try simp only [go_sem, Nat.reduceAdd, Nat.reduceSub, Nat.reduceMul, Nat.reduceLeDiff, Nat.reduceLT, Nat.reduceEqDiff, Int.reduceToNat, Int.reduceAdd, Int.reduceMul, Int.reduceSub, Int.reduceLT, Int.reduceLE, Int.reduceEq, Int.reduceNeg, Int.reduceBEq, Int.reduceBNe, ↓reduceIte, reduceCtorEq]); (first | refine ⟨_, rfl, _, rfl, Fin.set0 1 ?_ ?_⟩ | refine ⟨_, rfl, _, rfl, Fin.set 1 ?_ ?_⟩))
  · exact mc_under hb0'
  · simp only [AV.low]
theorem calc5_ok (k : Nat) (a b : Int) (hka : stk[k]? = some a) (hkb : stk[k + 1]? = some b) (ha : isV a) (hb' : isV b) (H0 : List AObj) (hid : H0[id]? = some (.cells 54 (mc vs is n i0 i1 i2 i3 stk (k + 1 + 1 : Nat) at' st))) (hb0' : is < H0.length) (hv : isV (a - b)) :
    ARun Tryd.prog 41 [.p id 0, .i 5] H0 (.ret (.i 0) (H0.set id (.cells 54 (mc vs is n i0 i1 i2 i3 (stk.set k (a - b)) (k + 1 : Nat) at' st)))) := by
  have hk64 : k + 1 < 64 := by have := (List.getElem?_eq_some_iff.1 hkb).1; omega
  have w1 : IntKind.i64.wrap (a - b) = a - b := wrap_of (by omega) (by omega)
  (refine ARun.intro Tryd.func41 rfl Tryd.call41 Tryd.ntmps41 Tryd.results41 ?_; simp only [List.length_cons, List.length_nil, List.length_map, Nat.reduceAdd, Nat.reduceSub, List.replicate_succ, List.replicate_zero, List.cons_append, List.nil_append])
  repeat' (first | refine awp_seq ?_ | refine awp_block ?_ | refine awp_scope ?_ | ((first | refine awp_region_k fun Kn Kp hn hp => ?_ | refine oge_intro (by assumption) ?_ | (show AWE _ _ _ _ _ _ _ _ _; first | refine awe_intro (pop_run vs is n i0 i1 i2 i3 stk hs at' st id (k + 1) b hkb _ hid hb0') ?_ | refine awe_intro (pop_run vs is n i0 i1 i2 i3 stk hs at' st id k a hka _ (getSet hid _) (by simpa using hb0')) ?_ | refine awe_intro (push_run vs is n i0 i1 i2 i3 stk hs at' st id k (a - b) (by omega) _ (getSet hid _) (by simpa using hb0') hv) ?_) | (show AWSF _ _ _ _ _ _ _ _ _ _ _; first | refine awsf_intro (pop_run vs is n i0 i1 i2 i3 stk hs at' st id (k + 1) b hkb _ hid hb0') (fun hrun => ?_) | refine awsf_intro (pop_run vs is n i0 i1 i2 i3 stk hs at' st id k a hka _ (getSet hid _) (by simpa using hb0')) (fun hrun => ?_) | refine awsf_intro (push_run vs is n i0 i1 i2 i3 stk hs at' st id k (a - b) (by omega) _ (getSet hid _) (by simpa using hb0') hv) (fun hrun => ?_)) | (show OGE _ _ _ _ _ _ _; first | refine oge_intro (pop_run vs is n i0 i1 i2 i3 stk hs at' st id (k + 1) b hkb _ hid hb0') ?_ | refine oge_intro (pop_run vs is n i0 i1 i2 i3 stk hs at' st id k a hka _ (getSet hid _) (by simpa using hb0')) ?_ | refine oge_intro (push_run vs is n i0 i1 i2 i3 stk hs at' st id k (a - b) (by omega) _ (getSet hid _) (by simpa using hb0') hv) ?_) | (show AWSE _ _ _ _ _ _ _ _ _ _ _; first | refine awse_intro (pop_run vs is n i0 i1 i2 i3 stk hs at' st id (k + 1) b hkb _ hid hb0') (fun hrun => ?_) | refine awse_intro (pop_run vs is n i0 i1 i2 i3 stk hs at' st id k a hka _ (getSet hid _) (by simpa using hb0')) (fun hrun => ?_) | refine awse_intro (push_run vs is n i0 i1 i2 i3 stk hs at' st id k (a - b) (by omega) _ (getSet hid _) (by simpa using hb0') hv) (fun hrun => ?_)) | (show PGE _ _ _ _ _; first | refine pge_intro (pop_run vs is n i0 i1 i2 i3 stk hs at' st id (k + 1) b hkb _ hid hb0') (fun tm' => ?_) | refine pge_intro (pop_run vs is n i0 i1 i2 i3 stk hs at' st id k a hka _ (getSet hid _) (by simpa using hb0')) (fun tm' => ?_) | refine pge_intro (push_run vs is n i0 i1 i2 i3 stk hs at' st id k (a - b) (by omega) _ (getSet hid _) (by simpa using hb0') hv) (fun tm' => ?_))) <;> (simp only [go_sem, Nat.reduceAdd, Nat.reduceSub, Nat.reduceMul, Nat.reduceLeDiff, Nat.reduceLT, Nat.reduceEqDiff, Int.reduceToNat, Int.reduceAdd, Int.reduceMul, Int.reduceSub, Int.reduceLT, Int.reduceLE, Int.reduceEq, Int.reduceNeg, Int.reduceBEq, Int.reduceBNe, ↓reduceIte, reduceCtorEq, hid, getSet hid, List.set_set, List.length_set, w1] <;> try simp (disch := omega) only [wrap_of])) | (refine hn _ _ ?_; clear hn hp Kn Kp) | (refine hp _ _ _ ?_; clear hn hp Kn Kp) | (refine awp_cond rfl (fun hb => ?_) (fun hb => ?_) <;> (try simp only [decide_eq_true_eq, decide_eq_false_iff_not, Bool.not_eq_true', Bool.not_eq_false', Bool.true_eq_false, Bool.false_eq_true, beq_iff_eq, bne_iff_ne, bne_eq_false_iff_eq, beq_eq_false_iff_ne, gt_iff_lt, ge_iff_le, Int.reduceEq, Int.reduceNe, Int.reduceLT, Int.reduceLE, ne_eq, not_true_eq_false, not_false_eq_true] at hb)) | ((first | refine awg_split (fun hb => ?_) (fun hb => ?_) | refine awsg_split (fun hb => ?_) (fun hb => ?_)) <;> have hb0 := hb <;> (try simp only [decide_eq_true_eq, decide_eq_false_iff_not, Bool.not_eq_true', Bool.not_eq_false', Bool.true_eq_false, Bool.false_eq_true, beq_iff_eq, bne_iff_ne, bne_eq_false_iff_eq, beq_eq_false_iff_ne, gt_iff_lt, ge_iff_le, Int.reduceEq, Int.reduceNe, Int.reduceLT, Int.reduceLE, ne_eq, not_true_eq_false, not_false_eq_true] at hb0) <;> (try simp only [beq_true, beq_false, Bool.not_eq_true', Bool.not_eq_false'] at hb) <;> (simp only [go_sem, Nat.reduceAdd, Nat.reduceSub, Nat.reduceMul, Nat.reduceLeDiff, Nat.reduceLT, Nat.reduceEqDiff, Int.reduceToNat, Int.reduceAdd, Int.reduceMul, Int.reduceSub, Int.reduceLT, Int.reduceLE, Int.reduceEq, Int.reduceNeg, Int.reduceBEq, Int.reduceBNe, ↓reduceIte, reduceCtorEq, hid, getSet hid, List.set_set, List.length_set, w1, hb, hb0] <;> try simp (disch := omega) only [wrap_of])) | (refine And.intro ?_ ?_) | refine awp_skip ?_ | refine awp_ret ?_ | refine awp_exit ?_ | refine awp_label ?_ | refine awloop_step ?_ | fail)
  ((try simp only [go_sem, Nat.reduceAdd, Nat.reduceSub, Nat.reduceMul, Nat.reduceLeDiff, Nat.reduceLT, Nat.reduceEqDiff, Int.reduceToNat, Int.reduceAdd, Int.reduceMul, Int.reduceSub, Int.reduceLT, Int.reduceLE, Int.reduceEq, Int.reduceNeg, Int.reduceBEq, Int.reduceBNe, ↓reduceIte, reduceCtorEq]); (first | refine ⟨_, rfl, _, rfl, Fin.set0 1 ?_ ?_⟩ | refine ⟨_, rfl, _, rfl, Fin.set 1 ?_ ?_⟩))
  · exact mc_under hb0'
  · simp only [AV.low]
theorem calc5_bad (k : Nat) (a b : Int) (hka : stk[k]? = some a) (hkb : stk[k + 1]? = some b) (ha : isV a) (hb' : isV b) (H0 : List AObj) (hid : H0[id]? = some (.cells 54 (mc vs is n i0 i1 i2 i3 stk (k + 1 + 1 : Nat) at' st))) (hb0' : is < H0.length) (hv : ¬ isV (a - b)) :
    ARun Tryd.prog 41 [.p id 0, .i 5] H0 (.ret (.i 3) (H0.set id (.cells 54 (mc vs is n i0 i1 i2 i3 stk (k : Nat) at' st)))) := by
  have hk64 : k + 1 < 64 := by have := (List.getElem?_eq_some_iff.1 hkb).1; omega
  have w1 : IntKind.i64.wrap (a - b) = a - b := wrap_of (by omega) (by omega)
  (refine ARun.intro Tryd.func41 rfl Tryd.call41 Tryd.ntmps41 Tryd.results41 ?_; simp only [List.length_cons, List.length_nil, List.length_map, Nat.reduceAdd, Nat.reduceSub, List.replicate_succ, List.replicate_zero, List.cons_append, List.nil_append])
  repeat' (first | refine awp_seq ?_ | refine awp_block ?_ | refine awp_scope ?_ | ((first | refine awp_region_k fun Kn Kp hn hp => ?_ | refine oge_intro (by assumption) ?_ | (show AWE _ _ _ _ _ _ _ _ _; first | refine awe_intro (pop_run vs is n i0 i1 i2 i3 stk hs at' st id (k + 1) b hkb _ hid hb0') ?_ | refine awe_intro (pop_run vs is n i0 i1 i2 i3 stk hs at' st id k a hka _ (getSet hid _) (by simpa using hb0')) ?_ | refine awe_intro (push_bad id (a - b) _ hv) ?_) | (show AWSF _ _ _ _ _ _ _ _ _ _ _; first | refine awsf_intro (pop_run vs is n i0 i1 i2 i3 stk hs at' st id (k + 1) b hkb _ hid hb0') (fun hrun => ?_) | refine awsf_intro (pop_run vs is n i0 i1 i2 i3 stk hs at' st id k a hka _ (getSet hid _) (by simpa using hb0')) (fun hrun => ?_) | refine awsf_intro (push_bad id (a - b) _ hv) (fun hrun => ?_)) | (show OGE _ _ _ _ _ _ _; first | refine oge_intro (pop_run vs is n i0 i1 i2 i3 stk hs at' st id (k + 1) b hkb _ hid hb0') ?_ | refine oge_intro (pop_run vs is n i0 i1 i2 i3 stk hs at' st id k a hka _ (getSet hid _) (by simpa using hb0')) ?_ | refine oge_intro (push_bad id (a - b) _ hv) ?_) | (show AWSE _ _ _ _ _ _ _ _ _ _ _; first | refine awse_intro (pop_run vs is n i0 i1 i2 i3 stk hs at' st id (k + 1) b hkb _ hid hb0') (fun hrun => ?_) | refine awse_intro (pop_run vs is n i0 i1 i2 i3 stk hs at' st id k a hka _ (getSet hid _) (by simpa using hb0')) (fun hrun => ?_) | refine awse_intro (push_bad id (a - b) _ hv) (fun hrun => ?_)) | (show PGE _ _ _ _ _; first | refine pge_intro (pop_run vs is n i0 i1 i2 i3 stk hs at' st id (k + 1) b hkb _ hid hb0') (fun tm' => ?_) | refine pge_intro (pop_run vs is n i0 i1 i2 i3 stk hs at' st id k a hka _ (getSet hid _) (by simpa using hb0')) (fun tm' => ?_) | refine pge_intro (push_bad id (a - b) _ hv) (fun tm' => ?_))) <;> (simp only [go_sem, Nat.reduceAdd, Nat.reduceSub, Nat.reduceMul, Nat.reduceLeDiff, Nat.reduceLT, Nat.reduceEqDiff, Int.reduceToNat, Int.reduceAdd, Int.reduceMul, Int.reduceSub, Int.reduceLT, Int.reduceLE, Int.reduceEq, Int.reduceNeg, Int.reduceBEq, Int.reduceBNe, ↓reduceIte, reduceCtorEq, hid, getSet hid, List.set_set, List.length_set, w1] <;> try simp (disch := omega) only [wrap_of])) | (refine hn _ _ ?_; clear hn hp Kn Kp) | (refine hp _ _ _ ?_; clear hn hp Kn Kp) | (refine awp_cond rfl (fun hb => ?_) (fun hb => ?_) <;> (try simp only [decide_eq_true_eq, decide_eq_false_iff_not, Bool.not_eq_true', Bool.not_eq_false', Bool.true_eq_false, Bool.false_eq_true, beq_iff_eq, bne_iff_ne, bne_eq_false_iff_eq, beq_eq_false_iff_ne, gt_iff_lt, ge_iff_le, Int.reduceEq, Int.reduceNe, Int.reduceLT, Int.reduceLE, ne_eq, not_true_eq_false, not_false_eq_true] at hb)) | ((first | refine awg_split (fun hb => ?_) (fun hb => ?_) | refine awsg_split (fun hb => ?_) (fun hb => ?_)) <;> have hb0 := hb <;> (try simp only [decide_eq_true_eq, decide_eq_false_iff_not, Bool.not_eq_true', Bool.not_eq_false', Bool.true_eq_false, Bool.false_eq_true, beq_iff_eq, bne_iff_ne, bne_eq_false_iff_eq, beq_eq_false_iff_ne, gt_iff_lt, ge_iff_le, Int.reduceEq, Int.reduceNe, Int.reduceLT, Int.reduceLE, ne_eq, not_true_eq_false, not_false_eq_true] at hb0) <;> (try simp only [beq_true, beq_false, Bool.not_eq_true', Bool.not_eq_false'] at hb) <;> (simp only [go_sem, Nat.reduceAdd, Nat.reduceSub, Nat.reduceMul, Nat.reduceLeDiff, Nat.reduceLT, Nat.reduceEqDiff, Int.reduceToNat, Int.reduceAdd, Int.reduceMul, Int.reduceSub, Int.reduceLT, Int.reduceLE, Int.reduceEq, Int.reduceNeg, Int.reduceBEq, Int.reduceBNe, ↓reduceIte, reduceCtorEq, hid, getSet hid, List.set_set, List.length_set, w1, hb, hb0] <;> try simp (disch := omega) only [wrap_of])) | (refine And.intro ?_ ?_) | refine awp_skip ?_ | refine awp_ret ?_ | refine awp_exit ?_ | refine awp_label ?_ | refine awloop_step ?_ | fail)
  ((try simp only [go_sem, Nat.reduceAdd, Nat.reduceSub, Nat.reduceMul, Nat.reduceLeDiff, Nat.reduceLT, Nat.reduceEqDiff, Int.reduceToNat, Int.reduceAdd, Int.reduceMul, Int.reduceSub, Int.reduceLT, Int.reduceLE, Int.reduceEq, Int.reduceNeg, Int.reduceBEq, Int.reduceBNe, ↓reduceIte, reduceCtorEq]); (first | refine ⟨_, rfl, _, rfl, Fin.set0 1 ?_ ?_⟩ | refine ⟨_, rfl, _, rfl, Fin.set 1 ?_ ?_⟩))
  · exact mc_under hb0'
  · simp only [AV.low]
theorem calc6_ok (k : Nat) (a b : Int) (hka : stk[k]? = some a) (hkb : stk[k + 1]? = some b) (ha : isV a) (hb' : isV b) (H0 : List AObj) (hid : H0[id]? = some (.cells 54 (mc vs is n i0 i1 i2 i3 stk (k + 1 + 1 : Nat) at' st))) (hb0' : is < H0.length) (hv : isV (prodS a b)) :
    ARun Tryd.prog 41 [.p id 0, .i 6] H0 (.ret (.i 0) (H0.set id (.cells 54 (mc vs is n i0 i1 i2 i3 (stk.set k (prodS a b)) (k + 1 : Nat) at' st)))) := by
  have hk64 : k + 1 < 64 := by have := (List.getElem?_eq_some_iff.1 hkb).1; omega
  (refine ARun.intro Tryd.func41 rfl Tryd.call41 Tryd.ntmps41 Tryd.results41 ?_; simp only [List.length_cons, List.length_nil, List.length_map, Nat.reduceAdd, Nat.reduceSub, List.replicate_succ, List.replicate_zero, List.cons_append, List.nil_append])
  repeat' (first | refine awp_seq ?_ | refine awp_block ?_ | refine awp_scope ?_ | ((first | refine awp_region_k fun Kn Kp hn hp => ?_ | refine oge_intro (by assumption) ?_ | (show AWE _ _ _ _ _ _ _ _ _; first | refine awe_intro (pop_run vs is n i0 i1 i2 i3 stk hs at' st id (k + 1) b hkb _ hid hb0') ?_ | refine awe_intro (pop_run vs is n i0 i1 i2 i3 stk hs at' st id k a hka _ (getSet hid _) (by simpa using hb0')) ?_ | refine awe_intro (product_run a b ha hb' _) ?_ | refine awe_intro (push_run vs is n i0 i1 i2 i3 stk hs at' st id k (prodS a b) (by omega) _ (getSet hid _) (by simpa using hb0') hv) ?_) | (show AWSF _ _ _ _ _ _ _ _ _ _ _; first | refine awsf_intro (pop_run vs is n i0 i1 i2 i3 stk hs at' st id (k + 1) b hkb _ hid hb0') (fun hrun => ?_) | refine awsf_intro (pop_run vs is n i0 i1 i2 i3 stk hs at' st id k a hka _ (getSet hid _) (by simpa using hb0')) (fun hrun => ?_) | refine awsf_intro (product_run a b ha hb' _) (fun hrun => ?_) | refine awsf_intro (push_run vs is n i0 i1 i2 i3 stk hs at' st id k (prodS a b) (by omega) _ (getSet hid _) (by simpa using hb0') hv) (fun hrun => ?_)) | (show OGE _ _ _ _ _ _ _; first | refine oge_intro (pop_run vs is n i0 i1 i2 i3 stk hs at' st id (k + 1) b hkb _ hid hb0') ?_ | refine oge_intro (pop_run vs is n i0 i1 i2 i3 stk hs at' st id k a hka _ (getSet hid _) (by simpa using hb0')) ?_ | refine oge_intro (product_run a b ha hb' _) ?_ | refine oge_intro (push_run vs is n i0 i1 i2 i3 stk hs at' st id k (prodS a b) (by omega) _ (getSet hid _) (by simpa using hb0') hv) ?_) | (show AWSE _ _ _ _ _ _ _ _ _ _ _; first | refine awse_intro (pop_run vs is n i0 i1 i2 i3 stk hs at' st id (k + 1) b hkb _ hid hb0') (fun hrun => ?_) | refine awse_intro (pop_run vs is n i0 i1 i2 i3 stk hs at' st id k a hka _ (getSet hid _) (by simpa using hb0')) (fun hrun => ?_) | refine awse_intro (product_run a b ha hb' _) (fun hrun => ?_) | refine awse_intro (push_run vs is n i0 i1 i2 i3 stk hs at' st id k (prodS a b) (by omega) _ (getSet hid _) (by simpa using hb0') hv) (fun hrun => ?_)) | (show PGE _ _ _ _ _; first | refine pge_intro (pop_run vs is n i0 i1 i2 i3 stk hs at' st id (k + 1) b hkb _ hid hb0') (fun tm' => ?_) | refine pge_intro (pop_run vs is n i0 i1 i2 i3 stk hs at' st id k a hka _ (getSet hid _) (by simpa using hb0')) (fun tm' => ?_) | refine pge_intro (product_run a b ha hb' _) (fun tm' => ?_) | refine pge_intro (push_run vs is n i0 i1 i2 i3 stk hs at' st id k (prodS a b) (by omega) _ (getSet hid _) (by simpa using hb0') hv) (fun tm' => ?_))) <;> (simp only [go_sem, Nat.reduceAdd, Nat.reduceSub, Nat.reduceMul, Nat.reduceLeDiff, Nat.reduceLT, Nat.reduceEqDiff, Int.reduceToNat, Int.reduceAdd, Int.reduceMul, Int.reduceSub, Int.reduceLT, Int.reduceLE, Int.reduceEq, Int.reduceNeg, Int.reduceBEq, Int.reduceBNe, ↓reduceIte, reduceCtorEq, hid, getSet hid, List.set_set, List.length_set] <;> try simp (disch := omega) only [wrap_of])) | (refine hn _ _ ?_; clear hn hp Kn Kp) | (refine hp _ _ _ ?_; clear hn hp Kn Kp) | (refine awp_cond rfl (fun hb => ?_) (fun hb => ?_) <;> (try simp only [decide_eq_true_eq, decide_eq_false_iff_not, Bool.not_eq_true', Bool.not_eq_false', Bool.true_eq_false, Bool.false_eq_true, beq_iff_eq, bne_iff_ne, bne_eq_false_iff_eq, beq_eq_false_iff_ne, gt_iff_lt, ge_iff_le, Int.reduceEq, Int.reduceNe, Int.reduceLT, Int.reduceLE, ne_eq, not_true_eq_false, not_false_eq_true] at hb)) | ((first | refine awg_split (fun hb => ?_) (fun hb => ?_) | refine awsg_split (fun hb => ?_) (fun hb => ?_)) <;> have hb0 := hb <;> (try simp only [decide_eq_true_eq, decide_eq_false_iff_not, Bool.not_eq_true', Bool.not_eq_false', Bool.true_eq_false, Bool.false_eq_true, beq_iff_eq, bne_iff_ne, bne_eq_false_iff_eq, beq_eq_false_iff_ne, gt_iff_lt, ge_iff_le, Int.reduceEq, Int.reduceNe, Int.reduceLT, Int.reduceLE, ne_eq, not_true_eq_false, not_false_eq_true] at hb0) <;> (try simp only [beq_true, beq_false, Bool.not_eq_true', Bool.not_eq_false'] at hb) <;> (simp only [go_sem, Nat.reduceAdd, Nat.reduceSub, Nat.reduceMul, Nat.reduceLeDiff, Nat.reduceLT, Nat.reduceEqDiff, Int.reduceToNat, Int.reduceAdd, Int.reduceMul, Int.reduceSub, Int.reduceLT, Int.reduceLE, Int.reduceEq, Int.reduceNeg, Int.reduceBEq, Int.reduceBNe, ↓reduceIte, reduceCtorEq, hid, getSet hid, List.set_set, List.length_set, hb, hb0] <;> try simp (disch := omega) only [wrap_of])) | (refine And.intro ?_ ?_) | refine awp_skip ?_ | refine awp_ret ?_ | refine awp_exit ?_ | refine awp_label ?_ | refine awloop_step ?_ | fail)
  ((try simp only [go_sem, Nat.reduceAdd, Nat.reduceSub, Nat.reduceMul, Nat.reduceLeDiff, Nat.reduceLT, Nat.reduceEqDiff, Int.reduceToNat, Int.reduceAdd, Int.reduceMul, Int.reduceSub, Int.reduceLT, Int.reduceLE, Int.reduceEq, Int.reduceNeg, Int.reduceBEq, Int.reduceBNe, ↓reduceIte, reduceCtorEq]); (first | refine ⟨_, rfl, _, rfl, Fin.set0 1 ?_ ?_⟩ | refine ⟨_, rfl, _, rfl, Fin.set 1 ?_ ?_⟩))
  · exact mc_under hb0'
  · simp only [AV.low]
theorem calc6_bad (k : Nat) (a b : Int) (hka : stk[k]? = some a) (hkb : stk[k + 1]? = some b) (ha : isV a) (hb' : isV b) (H0 : List AObj) (hid : H0[id]? = some (.cells 54 (mc vs is n i0 i1 i2 i3 stk (k + 1 + 1 : Nat) at' st))) (hb0' : is < H0.length) (hv : ¬ isV (prodS a b)) :
    ARun Tryd.prog 41 [.p id 0, .i 6] H0 (.ret (.i 3) (H0.set id (.cells 54 (mc vs is n i0 i1 i2 i3 stk (k : Nat) at' st)))) := by
  have hk64 : k + 1 < 64 := by have := (List.getElem?_eq_some_iff.1 hkb).1; omega
  (refine ARun.intro Tryd.func41 rfl Tryd.call41 Tryd.ntmps41 Tryd.results41 ?_; simp only [List.length_cons, List.length_nil, List.length_map, Nat.reduceAdd, Nat.reduceSub, List.replicate_succ, List.replicate_zero, List.cons_append, List.nil_append])
  repeat' (first | refine awp_seq ?_ | refine awp_block ?_ | refine awp_scope ?_ | ((first | refine awp_region_k fun Kn Kp hn hp => ?_ | refine oge_intro (by assumption) ?_ | (show AWE _ _ _ _ _ _ _ _ _; first | refine awe_intro (pop_run vs is n i0 i1 i2 i3 stk hs at' st id (k + 1) b hkb _ hid hb0') ?_ | refine awe_intro (pop_run vs is n i0 i1 i2 i3 stk hs at' st id k a hka _ (getSet hid _) (by simpa using hb0')) ?_ | refine awe_intro (product_run a b ha hb' _) ?_ | refine awe_intro (push_bad id (prodS a b) _ hv) ?_) | (show AWSF _ _ _ _ _ _ _ _ _ _ _; first | refine awsf_intro (pop_run vs is n i0 i1 i2 i3 stk hs at' st id (k + 1) b hkb _ hid hb0') (fun hrun => ?_) | refine awsf_intro (pop_run vs is n i0 i1 i2 i3 stk hs at' st id k a hka _ (getSet hid _) (by simpa using hb0')) (fun hrun => ?_) | refine awsf_intro (product_run a b ha hb' _) (fun hrun => ?_) | refine awsf_intro (push_bad id (prodS a b) _ hv) (fun hrun => ?_)) | (show OGE _ _ _ _ _ _ _; first | refine oge_intro (pop_run vs is n i0 i1 i2 i3 stk hs at' st id (k + 1) b hkb _ hid hb0') ?_ | refine oge_intro (pop_run vs is n i0 i1 i2 i3 stk hs at' st id k a hka _ (getSet hid _) (by simpa using hb0')) ?_ | refine oge_intro (product_run a b ha hb' _) ?_ | refine oge_intro (push_bad id (prodS a b) _ hv) ?_) | (show AWSE _ _ _ _ _ _ _ _ _ _ _; first | refine awse_intro (pop_run vs is n i0 i1 i2 i3 stk hs at' st id (k + 1) b hkb _ hid hb0') (fun hrun => ?_) | refine awse_intro (pop_run vs is n i0 i1 i2 i3 stk hs at' st id k a hka _ (getSet hid _) (by simpa using hb0')) (fun hrun => ?_) | refine awse_intro (product_run a b ha hb' _) (fun hrun => ?_) | refine awse_intro (push_bad id (prodS a b) _ hv) (fun hrun => ?_)) | (show PGE _ _ _ _ _; first | refine pge_intro (pop_run vs is n i0 i1 i2 i3 stk hs at' st id (k + 1) b hkb _ hid hb0') (fun tm' => ?_) | refine pge_intro (pop_run vs is n i0 i1 i2 i3 stk hs at' st id k a hka _ (getSet hid _) (by simpa using hb0')) (fun tm' => ?_) | refine pge_intro (product_run a b ha hb' _) (fun tm' => ?_) | refine pge_intro (push_bad id (prodS a b) _ hv) (fun tm' => ?_))) <;> (simp only [go_sem, Nat.reduceAdd, Nat.reduceSub, Nat.reduceMul, Nat.reduceLeDiff, Nat.reduceLT, Nat.reduceEqDiff, Int.reduceToNat, Int.reduceAdd, Int.reduceMul, Int.reduceSub, Int.reduceLT, Int.reduceLE, Int.reduceEq, Int.reduceNeg, Int.reduceBEq, Int.reduceBNe, ↓reduceIte, reduceCtorEq, hid, getSet hid, List.set_set, List.length_set] <;> try simp (disch := omega) only [wrap_of])) | (refine hn _ _ ?_; clear hn hp Kn Kp) | (refine hp _ _ _ ?_; clear hn hp Kn Kp) | (refine awp_cond rfl (fun hb => ?_) (fun hb => ?_) <;> (try simp only [decide_eq_true_eq, decide_eq_false_iff_not, Bool.not_eq_true', Bool.not_eq_false', Bool.true_eq_false, Bool.false_eq_true, beq_iff_eq, bne_iff_ne, bne_eq_false_iff_eq, beq_eq_false_iff_ne, gt_iff_lt, ge_iff_le, Int.reduceEq, Int.reduceNe, Int.reduceLT, Int.reduceLE, ne_eq, not_true_eq_false, not_false_eq_true] at hb)) | ((first | refine awg_split (fun hb => ?_) (fun hb => ?_) | refine awsg_split (fun hb => ?_) (fun hb => ?_)) <;> have hb0 := hb <;> (try simp only [decide_eq_true_eq, decide_eq_false_iff_not, Bool.not_eq_true', Bool.not_eq_false', Bool.true_eq_false, Bool.false_eq_true, beq_iff_eq, bne_iff_ne, bne_eq_false_iff_eq, beq_eq_false_iff_ne, gt_iff_lt, ge_iff_le, Int.reduceEq, Int.reduceNe, Int.reduceLT, Int.reduceLE, ne_eq, not_true_eq_false, not_false_eq_true] at hb0) <;> (try simp only [beq_true, beq_false, Bool.not_eq_true', Bool.not_eq_false'] at hb) <;> (simp only [go_sem, Nat.reduceAdd, Nat.reduceSub, Nat.reduceMul, Nat.reduceLeDiff, Nat.reduceLT, Nat.reduceEqDiff, Int.reduceToNat, Int.reduceAdd, Int.reduceMul, Int.reduceSub, Int.reduceLT, Int.reduceLE, Int.reduceEq, Int.reduceNeg, Int.reduceBEq, Int.reduceBNe, ↓reduceIte, reduceCtorEq, hid, getSet hid, List.set_set, List.length_set, hb, hb0] <;> try simp (disch := omega) only [wrap_of])) | (refine And.intro ?_ ?_) | refine awp_skip ?_ | refine awp_ret ?_ | refine awp_exit ?_ | refine awp_label ?_ | refine awloop_step ?_ | fail)
  ((try simp only [go_sem, Nat.reduceAdd, Nat.reduceSub, Nat.reduceMul, Nat.reduceLeDiff, Nat.reduceLT, Nat.reduceEqDiff, Int.reduceToNat, Int.reduceAdd, Int.reduceMul, Int.reduceSub, Int.reduceLT, Int.reduceLE, Int.reduceEq, Int.reduceNeg, Int.reduceBEq, Int.reduceBNe, ↓reduceIte, reduceCtorEq]); (first | refine ⟨_, rfl, _, rfl, Fin.set0 1 ?_ ?_⟩ | refine ⟨_, rfl, _, rfl, Fin.set 1 ?_ ?_⟩))
  · exact mc_under hb0'
  · simp only [AV.low]
theorem calc9_ok (k : Nat) (a b : Int) (hka : stk[k]? = some a) (hkb : stk[k + 1]? = some b) (ha : isV a) (hb' : isV b) (H0 : List AObj) (hid : H0[id]? = some (.cells 54 (mc vs is n i0 i1 i2 i3 stk (k + 1 + 1 : Nat) at' st))) (hb0' : is < H0.length) (hv : isV (if b < a then b else a)) :
    ARun Tryd.prog 41 [.p id 0, .i 9] H0 (.ret (.i 0) (H0.set id (.cells 54 (mc vs is n i0 i1 i2 i3 (stk.set k (if b < a then b else a)) (k + 1 : Nat) at' st)))) := by
  have hk64 : k + 1 < 64 := by have := (List.getElem?_eq_some_iff.1 hkb).1; omega
  (refine ARun.intro Tryd.func41 rfl Tryd.call41 Tryd.ntmps41 Tryd.results41 ?_; simp only [List.length_cons, List.length_nil, List.length_map, Nat.reduceAdd, Nat.reduceSub, List.replicate_succ, List.replicate_zero, List.cons_append, List.nil_append])
  repeat' (first | refine awp_seq ?_ | refine awp_block ?_ | refine awp_scope ?_ | ((first | refine awp_region_k fun Kn Kp hn hp => ?_ | refine oge_intro (by assumption) ?_ | (show AWE _ _ _ _ _ _ _ _ _; first | refine awe_intro (pop_run vs is n i0 i1 i2 i3 stk hs at' st id (k + 1) b hkb _ hid hb0') ?_ | refine awe_intro (pop_run vs is n i0 i1 i2 i3 stk hs at' st id k a hka _ (getSet hid _) (by simpa using hb0')) ?_ | refine awe_intro (push_run vs is n i0 i1 i2 i3 stk hs at' st id k (if b < a then b else a) (by omega) _ (getSet hid _) (by simpa using hb0') hv) ?_) | (show AWSF _ _ _ _ _ _ _ _ _ _ _; first | refine awsf_intro (pop_run vs is n i0 i1 i2 i3 stk hs at' st id (k + 1) b hkb _ hid hb0') (fun hrun => ?_) | refine awsf_intro (pop_run vs is n i0 i1 i2 i3 stk hs at' st id k a hka _ (getSet hid _) (by simpa using hb0')) (fun hrun => ?_) | refine awsf_intro (push_run vs is n i0 i1 i2 i3 stk hs at' st id k (if b < a then b else a) (by omega) _ (getSet hid _) (by simpa using hb0') hv) (fun hrun => ?_)) | (show OGE _ _ _ _ _ _ _; first | refine oge_intro (pop_run vs is n i0 i1 i2 i3 stk hs at' st id (k + 1) b hkb _ hid hb0') ?_ | refine oge_intro (pop_run vs is n i0 i1 i2 i3 stk hs at' st id k a hka _ (getSet hid _) (by simpa using hb0')) ?_ | refine oge_intro (push_run vs is n i0 i1 i2 i3 stk hs at' st id k (if b < a then b else a) (by omega) _ (getSet hid _) (by simpa using hb0') hv) ?_) | (show AWSE _ _ _ _ _ _ _ _ _ _ _; first | refine awse_intro (pop_run vs is n i0 i1 i2 i3 stk hs at' st id (k + 1) b hkb _ hid hb0') (fun hrun => ?_) | refine awse_intro (pop_run vs is n i0 i1 i2 i3 stk hs at' st id k a hka _ (getSet hid _) (by simpa using hb0')) (fun hrun => ?_) | refine awse_intro (push_run vs is n i0 i1 i2 i3 stk hs at' st id k (if b < a then b else a) (by omega) _ (getSet hid _) (by simpa using hb0') hv) (fun hrun => ?_)) | (show PGE _ _ _ _ _; first | refine pge_intro (pop_run vs is n i0 i1 i2 i3 stk hs at' st id (k + 1) b hkb _ hid hb0') (fun tm' => ?_) | refine pge_intro (pop_run vs is n i0 i1 i2 i3 stk hs at' st id k a hka _ (getSet hid _) (by simpa using hb0')) (fun tm' => ?_) | refine pge_intro (push_run vs is n i0 i1 i2 i3 stk hs at' st id k (if b < a then b else a) (by omega) _ (getSet hid _) (by simpa using hb0') hv) (fun tm' => ?_))) <;> (simp only [go_sem, Nat.reduceAdd, Nat.reduceSub, Nat.reduceMul, Nat.reduceLeDiff, Nat.reduceLT, Nat.reduceEqDiff, Int.reduceToNat, Int.reduceAdd, Int.reduceMul, Int.reduceSub, Int.reduceLT, Int.reduceLE, Int.reduceEq, Int.reduceNeg, Int.reduceBEq, Int.reduceBNe, ↓reduceIte, reduceCtorEq, hid, getSet hid, List.set_set, List.length_set] <;> try simp (disch := omega) only [wrap_of])) | (refine hn _ _ ?_; clear hn hp Kn Kp) | (refine hp _ _ _ ?_; clear hn hp Kn Kp) | (refine awp_cond rfl (fun hb => ?_) (fun hb => ?_) <;> (try simp only [decide_eq_true_eq, decide_eq_false_iff_not, Bool.not_eq_true', Bool.not_eq_false', Bool.true_eq_false, Bool.false_eq_true, beq_iff_eq, bne_iff_ne, bne_eq_false_iff_eq, beq_eq_false_iff_ne, gt_iff_lt, ge_iff_le, Int.reduceEq, Int.reduceNe, Int.reduceLT, Int.reduceLE, ne_eq, not_true_eq_false, not_false_eq_true] at hb)) | ((first | refine awg_split (fun hb => ?_) (fun hb => ?_) | refine awsg_split (fun hb => ?_) (fun hb => ?_)) <;> have hb0 := hb <;> (try simp only [decide_eq_true_eq, decide_eq_false_iff_not, Bool.not_eq_true', Bool.not_eq_false', Bool.true_eq_false, Bool.false_eq_true, beq_iff_eq, bne_iff_ne, bne_eq_false_iff_eq, beq_eq_false_iff_ne, gt_iff_lt, ge_iff_le, Int.reduceEq, Int.reduceNe, Int.reduceLT, Int.reduceLE, ne_eq, not_true_eq_false, not_false_eq_true] at hb0) <;> (try simp only [beq_true, beq_false, Bool.not_eq_true', Bool.not_eq_false'] at hb) <;> (simp only [go_sem, Nat.reduceAdd, Nat.reduceSub, Nat.reduceMul, Nat.reduceLeDiff, Nat.reduceLT, Nat.reduceEqDiff, Int.reduceToNat, Int.reduceAdd, Int.reduceMul, Int.reduceSub, Int.reduceLT, Int.reduceLE, Int.reduceEq, Int.reduceNeg, Int.reduceBEq, Int.reduceBNe, ↓reduceIte, reduceCtorEq, hid, getSet hid, List.set_set, List.length_set, hb, hb0] <;> try simp (disch := omega) only [wrap_of])) | (refine And.intro ?_ ?_) | refine awp_skip ?_ | refine awp_ret ?_ | refine awp_exit ?_ | refine awp_label ?_ | refine awloop_step ?_ | fail)
  ((try simp only [go_sem, Nat.reduceAdd, Nat.reduceSub, Nat.reduceMul, Nat.reduceLeDiff, Nat.reduceLT, Nat.reduceEqDiff, Int.reduceToNat, Int.reduceAdd, Int.reduceMul, Int.reduceSub, Int.reduceLT, Int.reduceLE, Int.reduceEq, Int.reduceNeg, Int.reduceBEq, Int.reduceBNe, ↓reduceIte, reduceCtorEq]); (first | refine ⟨_, rfl, _, rfl, Fin.set0 1 ?_ ?_⟩ | refine ⟨_, rfl, _, rfl, Fin.set 1 ?_ ?_⟩))
  · exact mc_under hb0'
  · simp only [AV.low]
theorem calc9_bad (k : Nat) (a b : Int) (hka : stk[k]? = some a) (hkb : stk[k + 1]? = some b) (ha : isV a) (hb' : isV b) (H0 : List AObj) (hid : H0[id]? = some (.cells 54 (mc vs is n i0 i1 i2 i3 stk (k + 1 + 1 : Nat) at' st))) (hb0' : is < H0.length) (hv : ¬ isV (if b < a then b else a)) :
    ARun Tryd.prog 41 [.p id 0, .i 9] H0 (.ret (.i 3) (H0.set id (.cells 54 (mc vs is n i0 i1 i2 i3 stk (k : Nat) at' st)))) := by
  have hk64 : k + 1 < 64 := by have := (List.getElem?_eq_some_iff.1 hkb).1; omega
  (refine ARun.intro Tryd.func41 rfl Tryd.call41 Tryd.ntmps41 Tryd.results41 ?_; simp only [List.length_cons, List.length_nil, List.length_map, Nat.reduceAdd, Nat.reduceSub, List.replicate_succ, List.replicate_zero, List.cons_append, List.nil_append])
  repeat' (first | refine awp_seq ?_ | refine awp_block ?_ | refine awp_scope ?_ | ((first | refine awp_region_k fun Kn Kp hn hp => ?_ | refine oge_intro (by assumption) ?_ | (show AWE _ _ _ _ _ _ _ _ _; first | refine awe_intro (pop_run vs is n i0 i1 i2 i3 stk hs at' st id (k + 1) b hkb _ hid hb0') ?_ | refine awe_intro (pop_run vs is n i0 i1 i2 i3 stk hs at' st id k a hka _ (getSet hid _) (by simpa using hb0')) ?_ | refine awe_intro (push_bad id (if b < a then b else a) _ hv) ?_) | (show AWSF _ _ _ _ _ _ _ _ _ _ _; first | refine awsf_intro (pop_run vs is n i0 i1 i2 i3 stk hs at' st id (k + 1) b hkb _ hid hb0') (fun hrun => ?_) | refine awsf_intro (pop_run vs is n i0 i1 i2 i3 stk hs at' st id k a hka _ (getSet hid _) (by simpa using hb0')) (fun hrun => ?_) | refine awsf_intro (push_bad id (if b < a then b else a) _ hv) (fun hrun => ?_)) | (show OGE _ _ _ _ _ _ _; first | refine oge_intro (pop_run vs is n i0 i1 i2 i3 stk hs at' st id (k + 1) b hkb _ hid hb0') ?_ | refine oge_intro (pop_run vs is n i0 i1 i2 i3 stk hs at' st id k a hka _ (getSet hid _) (by simpa using hb0')) ?_ | refine oge_intro (push_bad id (if b < a then b else a) _ hv) ?_) | (show AWSE _ _ _ _ _ _ _ _ _ _ _; first | refine awse_intro (pop_run vs is n i0 i1 i2 i3 stk hs at' st id (k + 1) b hkb _ hid hb0') (fun hrun => ?_) | refine awse_intro (pop_run vs is n i0 i1 i2 i3 stk hs at' st id k a hka _ (getSet hid _) (by simpa using hb0')) (fun hrun => ?_) | refine awse_intro (push_bad id (if b < a then b else a) _ hv) (fun hrun => ?_)) | (show PGE _ _ _ _ _; first | refine pge_intro (pop_run vs is n i0 i1 i2 i3 stk hs at' st id (k + 1) b hkb _ hid hb0') (fun tm' => ?_) | refine pge_intro (pop_run vs is n i0 i1 i2 i3 stk hs at' st id k a hka _ (getSet hid _) (by simpa using hb0')) (fun tm' => ?_) | refine pge_intro (push_bad id (if b < a then b else a) _ hv) (fun tm' => ?_))) <;> (simp only [go_sem, Nat.reduceAdd, Nat.reduceSub, Nat.reduceMul, Nat.reduceLeDiff, Nat.reduceLT, Nat.reduceEqDiff, Int.reduceToNat, Int.reduceAdd, Int.reduceMul, Int.reduceSub, Int.reduceLT, Int.reduceLE, Int.reduceEq, Int.reduceNeg, Int.reduceBEq, Int.reduceBNe, ↓reduceIte, reduceCtorEq, hid, getSet hid, List.set_set, List.length_set] <;> try simp (disch := omega) only [wrap_of])) | (refine hn _ _ ?_; clear hn hp Kn Kp) | (refine hp _ _ _ ?_; clear hn hp Kn Kp) | (refine awp_cond rfl (fun hb => ?_) (fun hb => ?_) <;> (try simp only [decide_eq_true_eq, decide_eq_false_iff_not, Bool.not_eq_true', Bool.not_eq_false', Bool.true_eq_false, Bool.false_eq_true, beq_iff_eq, bne_iff_ne, bne_eq_false_iff_eq, beq_eq_false_iff_ne, gt_iff_lt, ge_iff_le, Int.reduceEq, Int.reduceNe, Int.reduceLT, Int.reduceLE, ne_eq, not_true_eq_false, not_false_eq_true] at hb)) | ((first | refine awg_split (fun hb => ?_) (fun hb => ?_) | refine awsg_split (fun hb => ?_) (fun hb => ?_)) <;> have hb0 := hb <;> (try simp only [decide_eq_true_eq, decide_eq_false_iff_not, Bool.not_eq_true', Bool.not_eq_false', Bool.true_eq_false, Bool.false_eq_true, beq_iff_eq, bne_iff_ne, bne_eq_false_iff_eq, beq_eq_false_iff_ne, gt_iff_lt, ge_iff_le, Int.reduceEq, Int.reduceNe, Int.reduceLT, Int.reduceLE, ne_eq, not_true_eq_false, not_false_eq_true] at hb0) <;> (try simp only [beq_true, beq_false, Bool.not_eq_true', Bool.not_eq_false'] at hb) <;> (simp only [go_sem, Nat.reduceAdd, Nat.reduceSub, Nat.reduceMul, Nat.reduceLeDiff, Nat.reduceLT, Nat.reduceEqDiff, Int.reduceToNat, Int.reduceAdd, Int.reduceMul, Int.reduceSub, Int.reduceLT, Int.reduceLE, Int.reduceEq, Int.reduceNeg, Int.reduceBEq, Int.reduceBNe, ↓reduceIte, reduceCtorEq, hid, getSet hid, List.set_set, List.length_set, hb, hb0] <;> try simp (disch := omega) only [wrap_of])) | (refine And.intro ?_ ?_) | refine awp_skip ?_ | refine awp_ret ?_ | refine awp_exit ?_ | refine awp_label ?_ | refine awloop_step ?_ | fail)
  ((try simp only [go_sem, Nat.reduceAdd, Nat.reduceSub, Nat.reduceMul, Nat.reduceLeDiff, Nat.reduceLT, Nat.reduceEqDiff, Int.reduceToNat, Int.reduceAdd, Int.reduceMul, Int.reduceSub, Int.reduceLT, Int.reduceLE, Int.reduceEq, Int.reduceNeg, Int.reduceBEq, Int.reduceBNe, ↓reduceIte, reduceCtorEq]); (first | refine ⟨_, rfl, _, rfl, Fin.set0 1 ?_ ?_⟩ | refine ⟨_, rfl, _, rfl, Fin.set 1 ?_ ?_⟩))
  · exact mc_under hb0'
  · simp only [AV.low]
theorem calc10_ok (k : Nat) (a b : Int) (hka : stk[k]? = some a) (hkb : stk[k + 1]? = some b) (ha : isV a) (hb' : isV b) (H0 : List AObj) (hid : H0[id]? = some (.cells 54 (mc vs is n i0 i1 i2 i3 stk (k + 1 + 1 : Nat) at' st))) (hb0' : is < H0.length) (hv : isV (if a < b then b else a)) :
    ARun Tryd.prog 41 [.p id 0, .i 10] H0 (.ret (.i 0) (H0.set id (.cells 54 (mc vs is n i0 i1 i2 i3 (stk.set k (if a < b then b else a)) (k + 1 : Nat) at' st)))) := by
  have hk64 : k + 1 < 64 := by have := (List.getElem?_eq_some_iff.1 hkb).1; omega
  (refine ARun.intro Tryd.func41 rfl Tryd.call41 Tryd.ntmps41 Tryd.results41 ?_; simp only [List.length_cons, List.length_nil, List.length_map, Nat.reduceAdd, Nat.reduceSub, List.replicate_succ, List.replicate_zero, List.cons_append, List.nil_append])
  repeat' (first | refine awp_seq ?_ | refine awp_block ?_ | refine awp_scope ?_ | ((first | refine awp_region_k fun Kn Kp hn hp => ?_ | refine oge_intro (by assumption) ?_ | (show AWE _ _ _ _ _ _ _ _ _; first | refine awe_intro (pop_run vs is n i0 i1 i2 i3 stk hs at' st id (k + 1) b hkb _ hid hb0') ?_ | refine awe_intro (pop_run vs is n i0 i1 i2 i3 stk hs at' st id k a hka _ (getSet hid _) (by simpa using hb0')) ?_ | refine awe_intro (push_run vs is n i0 i1 i2 i3 stk hs at' st id k (if a < b then b else a) (by omega) _ (getSet hid _) (by simpa using hb0') hv) ?_) | (show AWSF _ _ _ _ _ _ _ _ _ _ _; first | refine awsf_intro (pop_run vs is n i0 i1 i2 i3 stk hs at' st id (k + 1) b hkb _ hid hb0') (fun hrun => ?_) | refine awsf_intro (pop_run vs is n i0 i1 i2 i3 stk hs at' st id k a hka _ (getSet hid _) (by simpa using hb0')) (fun hrun => ?_) | refine awsf_intro (push_run vs is n i0 i1 i2 i3 stk hs at' st id k (if a < b then b else a) (by omega) _ (getSet hid _) (by simpa using hb0') hv) (fun hrun => ?_)) | (show OGE _ _ _ _ _ _ _; first | refine oge_intro (pop_run vs is n i0 i1 i2 i3 stk hs at' st id (k + 1) b hkb _ hid hb0') ?_ | refine oge_intro (pop_run vs is n i0 i1 i2 i3 stk hs at' st id k a hka _ (getSet hid _) (by simpa using hb0')) ?_ | refine oge_intro (push_run vs is n i0 i1 i2 i3 stk hs at' st id k (if a < b then b else a) (by omega) _ (getSet hid _) (by simpa using hb0') hv) ?_) | (show AWSE _ _ _ _ _ _ _ _ _ _ _; first | refine awse_intro (pop_run vs is n i0 i1 i2 i3 stk hs at' st id (k + 1) b hkb _ hid hb0') (fun hrun => ?_) | refine awse_intro (pop_run vs is n i0 i1 i2 i3 stk hs at' st id k a hka _ (getSet hid _) (by simpa using hb0')) (fun hrun => ?_) | refine awse_intro (push_run vs is n i0 i1 i2 i3 stk hs at' st id k (if a < b then b else a) (by omega) _ (getSet hid _) (by simpa using hb0') hv) (fun hrun => ?_)) | (show PGE _ _ _ _ _; first | refine pge_intro (pop_run vs is n i0 i1 i2 i3 stk hs at' st id (k + 1) b hkb _ hid hb0') (fun tm' => ?_) | refine pge_intro (pop_run vs is n i0 i1 i2 i3 stk hs at' st id k a hka _ (getSet hid _) (by simpa using hb0')) (fun tm' => ?_) | refine pge_intro (push_run vs is n i0 i1 i2 i3 stk hs at' st id k (if a < b then b else a) (by omega) _ (getSet hid _) (by simpa using hb0') hv) (fun tm' => ?_))) <;> (simp only [go_sem, Nat.reduceAdd, Nat.reduceSub, Nat.reduceMul, Nat.reduceLeDiff, Nat.reduceLT, Nat.reduceEqDiff, Int.reduceToNat, Int.reduceAdd, Int.reduceMul, Int.reduceSub, Int.reduceLT, Int.reduceLE, Int.reduceEq, Int.reduceNeg, Int.reduceBEq, Int.reduceBNe, ↓reduceIte, reduceCtorEq, hid, getSet hid, List.set_set, List.length_set] <;> try simp (disch := omega) only [wrap_of])) | (refine hn _ _ ?_; clear hn hp Kn Kp) | (refine hp _ _ _ ?_; clear hn hp Kn Kp) | (refine awp_cond rfl (fun hb => ?_) (fun hb => ?_) <;> (try simp only [decide_eq_true_eq, decide_eq_false_iff_not, Bool.not_eq_true', Bool.not_eq_false', Bool.true_eq_false, Bool.false_eq_true, beq_iff_eq, bne_iff_ne, bne_eq_false_iff_eq, beq_eq_false_iff_ne, gt_iff_lt, ge_iff_le, Int.reduceEq, Int.reduceNe, Int.reduceLT, Int.reduceLE, ne_eq, not_true_eq_false, not_false_eq_true] at hb)) | ((first | refine awg_split (fun hb => ?_) (fun hb => ?_) | refine awsg_split (fun hb => ?_) (fun hb => ?_)) <;> have hb0 := hb <;> (try simp only [decide_eq_true_eq, decide_eq_false_iff_not, Bool.not_eq_true', Bool.not_eq_false', Bool.true_eq_false, Bool.false_eq_true, beq_iff_eq, bne_iff_ne, bne_eq_false_iff_eq, beq_eq_false_iff_ne, gt_iff_lt, ge_iff_le, Int.reduceEq, Int.reduceNe, Int.reduceLT, Int.reduceLE, ne_eq, not_true_eq_false, not_false_eq_true] at hb0) <;> (try simp only [beq_true, beq_false, Bool.not_eq_true', Bool.not_eq_false'] at hb) <;> (simp only [go_sem, Nat.reduceAdd, Nat.reduceSub, Nat.reduceMul, Nat.reduceLeDiff, Nat.reduceLT, Nat.reduceEqDiff, Int.reduceToNat, Int.reduceAdd, Int.reduceMul, Int.reduceSub, Int.reduceLT, Int.reduceLE, Int.reduceEq, Int.reduceNeg, Int.reduceBEq, Int.reduceBNe, ↓reduceIte, reduceCtorEq, hid, getSet hid, List.set_set, List.length_set, hb, hb0] <;> try simp (disch := omega) only [wrap_of])) | (refine And.intro ?_ ?_) | refine awp_skip ?_ | refine awp_ret ?_ | refine awp_exit ?_ | refine awp_label ?_ | refine awloop_step ?_ | fail)
  ((try simp only [go_sem, Nat.reduceAdd, Nat.reduceSub, Nat.reduceMul, Nat.reduceLeDiff, Nat.reduceLT, Nat.reduceEqDiff, Int.reduceToNat, Int.reduceAdd, Int.reduceMul, Int.reduceSub, Int.reduceLT, Int.reduceLE, Int.reduceEq, Int.reduceNeg, Int.reduceBEq, Int.reduceBNe, ↓reduceIte, reduceCtorEq]); (first | refine ⟨_, rfl, _, rfl, Fin.set0 1 ?_ ?_⟩ | refine ⟨_, rfl, _, rfl, Fin.set 1 ?_ ?_⟩))
  · exact mc_under hb0'
  · simp only [AV.low]
theorem calc10_bad (k : Nat) (a b : Int) (hka : stk[k]? = some a) (hkb : stk[k + 1]? = some b) (ha : isV a) (hb' : isV b) (H0 : List AObj) (hid : H0[id]? = some (.cells 54 (mc vs is n i0 i1 i2 i3 stk (k + 1 + 1 : Nat) at' st))) (hb0' : is < H0.length) (hv : ¬ isV (if a < b then b else a)) :
    ARun Tryd.prog 41 [.p id 0, .i 10] H0 (.ret (.i 3) (H0.set id (.cells 54 (mc vs is n i0 i1 i2 i3 stk (k : Nat) at' st)))) := by
  have hk64 : k + 1 < 64 := by have := (List.getElem?_eq_some_iff.1 hkb).1; omega
  (refine ARun.intro Tryd.func41 rfl Tryd.call41 Tryd.ntmps41 Tryd.results41 ?_; simp only [List.length_cons, List.length_nil, List.length_map, Nat.reduceAdd, Nat.reduceSub, List.replicate_succ, List.replicate_zero, List.cons_append, List.nil_append])
  repeat' (first | refine awp_seq ?_ | refine awp_block ?_ | refine awp_scope ?_ | ((first | refine awp_region_k fun Kn Kp hn hp => ?_ | refine oge_intro (by assumption) ?_ | (show AWE _ _ _ _ _ _ _ _ _; first | refine awe_intro (pop_run vs is n i0 i1 i2 i3 stk hs at' st id (k + 1) b hkb _ hid hb0') ?_ | refine awe_intro (pop_run vs is n i0 i1 i2 i3 stk hs at' st id k a hka _ (getSet hid _) (by simpa using hb0')) ?_ | refine awe_intro (push_bad id (if a < b then b else a) _ hv) ?_) | (show AWSF _ _ _ _ _ _ _ _ _ _ _; first | refine awsf_intro (pop_run vs is n i0 i1 i2 i3 stk hs at' st id (k + 1) b hkb _ hid hb0') (fun hrun => ?_) | refine awsf_intro (pop_run vs is n i0 i1 i2 i3 stk hs at' st id k a hka _ (getSet hid _) (by simpa using hb0')) (fun hrun => ?_) | refine awsf_intro (push_bad id (if a < b then b else a) _ hv) (fun hrun => ?_)) | (show OGE _ _ _ _ _ _ _; first | refine oge_intro (pop_run vs is n i0 i1 i2 i3 stk hs at' st id (k + 1) b hkb _ hid hb0') ?_ | refine oge_intro (pop_run vs is n i0 i1 i2 i3 stk hs at' st id k a hka _ (getSet hid _) (by simpa using hb0')) ?_ | refine oge_intro (push_bad id (if a < b then b else a) _ hv) ?_) | (show AWSE _ _ _ _ _ _ _ _ _ _ _; first | refine awse_intro (pop_run vs is n i0 i1 i2 i3 stk hs at' st id (k + 1) b hkb _ hid hb0') (fun hrun => ?_) | refine awse_intro (pop_run vs is n i0 i1 i2 i3 stk hs at' st id k a hka _ (getSet hid _) (by simpa using hb0')) (fun hrun => ?_) | refine awse_intro (push_bad id (if a < b then b else a) _ hv) (fun hrun => ?_)) | (show PGE _ _ _ _ _; first | refine pge_intro (pop_run vs is n i0 i1 i2 i3 stk hs at' st id (k + 1) b hkb _ hid hb0') (fun tm' => ?_) | refine pge_intro (pop_run vs is n i0 i1 i2 i3 stk hs at' st id k a hka _ (getSet hid _) (by simpa using hb0')) (fun tm' => ?_) | refine pge_intro (push_bad id (if a < b then b else a) _ hv) (fun tm' => ?_))) <;> (simp only [go_sem, Nat.reduceAdd, Nat.reduceSub, Nat.reduceMul, Nat.reduceLeDiff, Nat.reduceLT, Nat.reduceEqDiff, Int.reduceToNat, Int.reduceAdd, Int.reduceMul, Int.reduceSub, Int.reduceLT, Int.reduceLE, Int.reduceEq, Int.reduceNeg, Int.reduceBEq, Int.reduceBNe, ↓reduceIte, reduceCtorEq, hid, getSet hid, List.set_set, List.length_set] <;> try simp (disch := omega) only [wrap_of])) | (refine hn _ _ ?_; clear hn hp Kn Kp) | (refine hp _ _ _ ?_; clear hn hp Kn Kp) | (refine awp_cond rfl (fun hb => ?_) (fun hb => ?_) <;> (try simp only [decide_eq_true_eq, decide_eq_false_iff_not, Bool.not_eq_true', Bool.not_eq_false', Bool.true_eq_false, Bool.false_eq_true, beq_iff_eq, bne_iff_ne, bne_eq_false_iff_eq, beq_eq_false_iff_ne, gt_iff_lt, ge_iff_le, Int.reduceEq, Int.reduceNe, Int.reduceLT, Int.reduceLE, ne_eq, not_true_eq_false, not_false_eq_true] at hb)) | ((first | refine awg_split (fun hb => ?_) (fun hb => ?_) | refine awsg_split (fun hb => ?_) (fun hb => ?_)) <;> have hb0 := hb <;> (try simp only [decide_eq_true_eq, decide_eq_false_iff_not, Bool.not_eq_true', Bool.not_eq_false', Bool.true_eq_false, Bool.false_eq_true, beq_iff_eq, bne_iff_ne, bne_eq_false_iff_eq, beq_eq_false_iff_ne, gt_iff_lt, ge_iff_le, Int.reduceEq, Int.reduceNe, Int.reduceLT, Int.reduceLE, ne_eq, not_true_eq_false, not_false_eq_true] at hb0) <;> (try simp only [beq_true, beq_false, Bool.not_eq_true', Bool.not_eq_false'] at hb) <;> (simp only [go_sem, Nat.reduceAdd, Nat.reduceSub, Nat.reduceMul, Nat.reduceLeDiff, Nat.reduceLT, Nat.reduceEqDiff, Int.reduceToNat, Int.reduceAdd, Int.reduceMul, Int.reduceSub, Int.reduceLT, Int.reduceLE, Int.reduceEq, Int.reduceNeg, Int.reduceBEq, Int.reduceBNe, ↓reduceIte, reduceCtorEq, hid, getSet hid, List.set_set, List.length_set, hb, hb0] <;> try simp (disch := omega) only [wrap_of])) | (refine And.intro ?_ ?_) | refine awp_skip ?_ | refine awp_ret ?_ | refine awp_exit ?_ | refine awp_label ?_ | refine awloop_step ?_ | fail)
  ((try simp only [go_sem, Nat.reduceAdd, Nat.reduceSub, Nat.reduceMul, Nat.reduceLeDiff, Nat.reduceLT, Nat.reduceEqDiff, Int.reduceToNat, Int.reduceAdd, Int.reduceMul, Int.reduceSub, Int.reduceLT, Int.reduceLE, Int.reduceEq, Int.reduceNeg, Int.reduceBEq, Int.reduceBNe, ↓reduceIte, reduceCtorEq]); (first | refine ⟨_, rfl, _, rfl, Fin.set0 1 ?_ ?_⟩ | refine ⟨_, rfl, _, rfl, Fin.set 1 ?_ ?_⟩))
  · exact mc_under hb0'
  · simp only [AV.low]
theorem calc8_ok (k : Nat) (a b : Int) (hka : stk[k]? = some a) (hkb : stk[k + 1]? = some b) (ha : isV a) (hb' : isV b) (H0 : List AObj) (hid : H0[id]? = some (.cells 54 (mc vs is n i0 i1 i2 i3 stk (k + 1 + 1 : Nat) at' st))) (hb0' : is < H0.length) (hz : b ≠ 0) (hv : isV (-downS (-a) b)) :
    ARun Tryd.prog 41 [.p id 0, .i 8] H0 (.ret (.i 0) (H0.set id (.cells 54 (mc vs is n i0 i1 i2 i3 (stk.set k (-downS (-a) b)) (k + 1 : Nat) at' st)))) := by
  have hk64 : k + 1 < 64 := by have := (List.getElem?_eq_some_iff.1 hkb).1; omega
  have d1 := downS_bd (a := -a) (b := b) ⟨by omega, by omega⟩ hz
  have w1 : IntKind.i64.wrap (-a) = -a := wrap_of (by omega) (by omega)
  have w2 : IntKind.i64.wrap (-downS (-a) b) = -downS (-a) b := wrap_of (by omega) (by omega)
  have z1 : (b == 0) = false := by simpa using hz
  (refine ARun.intro Tryd.func41 rfl Tryd.call41 Tryd.ntmps41 Tryd.results41 ?_; simp only [List.length_cons, List.length_nil, List.length_map, Nat.reduceAdd, Nat.reduceSub, List.replicate_succ, List.replicate_zero, List.cons_append, List.nil_append])
  repeat' (first | refine awp_seq ?_ | refine awp_block ?_ | refine awp_scope ?_ | ((first | refine awp_region_k fun Kn Kp hn hp => ?_ | refine oge_intro (by assumption) ?_ | (show AWE _ _ _ _ _ _ _ _ _; first | refine awe_intro (pop_run vs is n i0 i1 i2 i3 stk hs at' st id (k + 1) b hkb _ hid hb0') ?_ | refine awe_intro (pop_run vs is n i0 i1 i2 i3 stk hs at' st id k a hka _ (getSet hid _) (by simpa using hb0')) ?_ | refine awe_intro (down_run (-a) b ⟨by omega, by omega⟩ hz _) ?_ | refine awe_intro (push_run vs is n i0 i1 i2 i3 stk hs at' st id k (-downS (-a) b) (by omega) _ (getSet hid _) (by simpa using hb0') hv) ?_) | (show AWSF _ _ _ _ _ _ _ _ _ _ _; first | refine awsf_intro (pop_run vs is n i0 i1 i2 i3 stk hs at' st id (k + 1) b hkb _ hid hb0') (fun hrun => ?_) | refine awsf_intro (pop_run vs is n i0 i1 i2 i3 stk hs at' st id k a hka _ (getSet hid _) (by simpa using hb0')) (fun hrun => ?_) | refine awsf_intro (down_run (-a) b ⟨by omega, by omega⟩ hz _) (fun hrun => ?_) | refine awsf_intro (push_run vs is n i0 i1 i2 i3 stk hs at' st id k (-downS (-a) b) (by omega) _ (getSet hid _) (by simpa using hb0') hv) (fun hrun => ?_)) | (show OGE _ _ _ _ _ _ _; first | refine oge_intro (pop_run vs is n i0 i1 i2 i3 stk hs at' st id (k + 1) b hkb _ hid hb0') ?_ | refine oge_intro (pop_run vs is n i0 i1 i2 i3 stk hs at' st id k a hka _ (getSet hid _) (by simpa using hb0')) ?_ | refine oge_intro (down_run (-a) b ⟨by omega, by omega⟩ hz _) ?_ | refine oge_intro (push_run vs is n i0 i1 i2 i3 stk hs at' st id k (-downS (-a) b) (by omega) _ (getSet hid _) (by simpa using hb0') hv) ?_) | (show AWSE _ _ _ _ _ _ _ _ _ _ _; first | refine awse_intro (pop_run vs is n i0 i1 i2 i3 stk hs at' st id (k + 1) b hkb _ hid hb0') (fun hrun => ?_) | refine awse_intro (pop_run vs is n i0 i1 i2 i3 stk hs at' st id k a hka _ (getSet hid _) (by simpa using hb0')) (fun hrun => ?_) | refine awse_intro (down_run (-a) b ⟨by omega, by omega⟩ hz _) (fun hrun => ?_) | refine awse_intro (push_run vs is n i0 i1 i2 i3 stk hs at' st id k (-downS (-a) b) (by omega) _ (getSet hid _) (by simpa using hb0') hv) (fun hrun => ?_)) | (show PGE _ _ _ _ _; first | refine pge_intro (pop_run vs is n i0 i1 i2 i3 stk hs at' st id (k + 1) b hkb _ hid hb0') (fun tm' => ?_) | refine pge_intro (pop_run vs is n i0 i1 i2 i3 stk hs at' st id k a hka _ (getSet hid _) (by simpa using hb0')) (fun tm' => ?_) | refine pge_intro (down_run (-a) b ⟨by omega, by omega⟩ hz _) (fun tm' => ?_) | refine pge_intro (push_run vs is n i0 i1 i2 i3 stk hs at' st id k (-downS (-a) b) (by omega) _ (getSet hid _) (by simpa using hb0') hv) (fun tm' => ?_))) <;> (simp only [go_sem, Nat.reduceAdd, Nat.reduceSub, Nat.reduceMul, Nat.reduceLeDiff, Nat.reduceLT, Nat.reduceEqDiff, Int.reduceToNat, Int.reduceAdd, Int.reduceMul, Int.reduceSub, Int.reduceLT, Int.reduceLE, Int.reduceEq, Int.reduceNeg, Int.reduceBEq, Int.reduceBNe, ↓reduceIte, reduceCtorEq, hid, getSet hid, List.set_set, List.length_set, w1, w2, z1, hz] <;> try simp (disch := omega) only [wrap_of])) | (refine hn _ _ ?_; clear hn hp Kn Kp) | (refine hp _ _ _ ?_; clear hn hp Kn Kp) | (refine awp_cond rfl (fun hb => ?_) (fun hb => ?_) <;> (try simp only [decide_eq_true_eq, decide_eq_false_iff_not, Bool.not_eq_true', Bool.not_eq_false', Bool.true_eq_false, Bool.false_eq_true, beq_iff_eq, bne_iff_ne, bne_eq_false_iff_eq, beq_eq_false_iff_ne, gt_iff_lt, ge_iff_le, Int.reduceEq, Int.reduceNe, Int.reduceLT, Int.reduceLE, ne_eq, not_true_eq_false, not_false_eq_true] at hb)) | ((first | refine awg_split (fun hb => ?_) (fun hb => ?_) | refine awsg_split (fun hb => ?_) (fun hb => ?_)) <;> have hb0 := hb <;> (try simp only [decide_eq_true_eq, decide_eq_false_iff_not, Bool.not_eq_true', Bool.not_eq_false', Bool.true_eq_false, Bool.false_eq_true, beq_iff_eq, bne_iff_ne, bne_eq_false_iff_eq, beq_eq_false_iff_ne, gt_iff_lt, ge_iff_le, Int.reduceEq, Int.reduceNe, Int.reduceLT, Int.reduceLE, ne_eq, not_true_eq_false, not_false_eq_true] at hb0) <;> (try simp only [beq_true, beq_false, Bool.not_eq_true', Bool.not_eq_false'] at hb) <;> (simp only [go_sem, Nat.reduceAdd, Nat.reduceSub, Nat.reduceMul, Nat.reduceLeDiff, Nat.reduceLT, Nat.reduceEqDiff, Int.reduceToNat, Int.reduceAdd, Int.reduceMul, Int.reduceSub, Int.reduceLT, Int.reduceLE, Int.reduceEq, Int.reduceNeg, Int.reduceBEq, Int.reduceBNe, ↓reduceIte, reduceCtorEq, hid, getSet hid, List.set_set, List.length_set, w1, w2, z1, hz, hb, hb0] <;> try simp (disch := omega) only [wrap_of])) | (refine And.intro ?_ ?_) | refine awp_skip ?_ | refine awp_ret ?_ | refine awp_exit ?_ | refine awp_label ?_ | refine awloop_step ?_ | fail)
  ((try simp only [go_sem, Nat.reduceAdd, Nat.reduceSub, Nat.reduceMul, Nat.reduceLeDiff, Nat.reduceLT, Nat.reduceEqDiff, Int.reduceToNat, Int.reduceAdd, Int.reduceMul, Int.reduceSub, Int.reduceLT, Int.reduceLE, Int.reduceEq, Int.reduceNeg, Int.reduceBEq, Int.reduceBNe, ↓reduceIte, reduceCtorEq]); (first | refine ⟨_, rfl, _, rfl, Fin.set0 1 ?_ ?_⟩ | refine ⟨_, rfl, _, rfl, Fin.set 1 ?_ ?_⟩))
  · exact mc_under hb0'
  · simp only [AV.low]
theorem calc8_bad (k : Nat) (a b : Int) (hka : stk[k]? = some a) (hkb : stk[k + 1]? = some b) (ha : isV a) (hb' : isV b) (H0 : List AObj) (hid : H0[id]? = some (.cells 54 (mc vs is n i0 i1 i2 i3 stk (k + 1 + 1 : Nat) at' st))) (hb0' : is < H0.length) (hz : b ≠ 0) (hv : ¬ isV (-downS (-a) b)) :
    ARun Tryd.prog 41 [.p id 0, .i 8] H0 (.ret (.i 3) (H0.set id (.cells 54 (mc vs is n i0 i1 i2 i3 stk (k : Nat) at' st)))) := by
  have hk64 : k + 1 < 64 := by have := (List.getElem?_eq_some_iff.1 hkb).1; omega
  have d1 := downS_bd (a := -a) (b := b) ⟨by omega, by omega⟩ hz
  have w1 : IntKind.i64.wrap (-a) = -a := wrap_of (by omega) (by omega)
  have w2 : IntKind.i64.wrap (-downS (-a) b) = -downS (-a) b := wrap_of (by omega) (by omega)
  have z1 : (b == 0) = false := by simpa using hz
  (refine ARun.intro Tryd.func41 rfl Tryd.call41 Tryd.ntmps41 Tryd.results41 ?_; simp only [List.length_cons, List.length_nil, List.length_map, Nat.reduceAdd, Nat.reduceSub, List.replicate_succ, List.replicate_zero, List.cons_append, List.nil_append])
  repeat' (first | refine awp_seq ?_ | refine awp_block ?_ | refine awp_scope ?_ | ((first | refine awp_region_k fun Kn Kp hn hp => ?_ | refine oge_intro (by assumption) ?_ | (show AWE _ _ _ _ _ _ _ _ _; first | refine awe_intro (pop_run vs is n i0 i1 i2 i3 stk hs at' st id (k + 1) b hkb _ hid hb0') ?_ | refine awe_intro (pop_run vs is n i0 i1 i2 i3 stk hs at' st id k a hka _ (getSet hid _) (by simpa using hb0')) ?_ | refine awe_intro (down_run (-a) b ⟨by omega, by omega⟩ hz _) ?_ | refine awe_intro (push_bad id (-downS (-a) b) _ hv) ?_) | (show AWSF _ _ _ _ _ _ _ _ _ _ _; first | refine awsf_intro (pop_run vs is n i0 i1 i2 i3 stk hs at' st id (k + 1) b hkb _ hid hb0') (fun hrun => ?_) | refine awsf_intro (pop_run vs is n i0 i1 i2 i3 stk hs at' st id k a hka _ (getSet hid _) (by simpa using hb0')) (fun hrun => ?_) | refine awsf_intro (down_run (-a) b ⟨by omega, by omega⟩ hz _) (fun hrun => ?_) | refine awsf_intro (push_bad id (-downS (-a) b) _ hv) (fun hrun => ?_)) | (show OGE _ _ _ _ _ _ _; first | refine oge_intro (pop_run vs is n i0 i1 i2 i3 stk hs at' st id (k + 1) b hkb _ hid hb0') ?_ | refine oge_intro (pop_run vs is n i0 i1 i2 i3 stk hs at' st id k a hka _ (getSet hid _) (by simpa using hb0')) ?_ | refine oge_intro (down_run (-a) b ⟨by omega, by omega⟩ hz _) ?_ | refine oge_intro (push_bad id (-downS (-a) b) _ hv) ?_) | (show AWSE _ _ _ _ _ _ _ _ _ _ _; first | refine awse_intro (pop_run vs is n i0 i1 i2 i3 stk hs at' st id (k + 1) b hkb _ hid hb0') (fun hrun => ?_) | refine awse_intro (pop_run vs is n i0 i1 i2 i3 stk hs at' st id k a hka _ (getSet hid _) (by simpa using hb0')) (fun hrun => ?_) | refine awse_intro (down_run (-a) b ⟨by omega, by omega⟩ hz _) (fun hrun => ?_) | refine awse_intro (push_bad id (-downS (-a) b) _ hv) (fun hrun => ?_)) | (show PGE _ _ _ _ _; first | refine pge_intro (pop_run vs is n i0 i1 i2 i3 stk hs at' st id (k + 1) b hkb _ hid hb0') (fun tm' => ?_) | refine pge_intro (pop_run vs is n i0 i1 i2 i3 stk hs at' st id k a hka _ (getSet hid _) (by simpa using hb0')) (fun tm' => ?_) | refine pge_intro (down_run (-a) b ⟨by omega, by omega⟩ hz _) (fun tm' => ?_) | refine pge_intro (push_bad id (-downS (-a) b) _ hv) (fun tm' => ?_))) <;> (simp only [go_sem, Nat.reduceAdd, Nat.reduceSub, Nat.reduceMul, Nat.reduceLeDiff, Nat.reduceLT, Nat.reduceEqDiff, Int.reduceToNat, Int.reduceAdd, Int.reduceMul, Int.reduceSub, Int.reduceLT, Int.reduceLE, Int.reduceEq, Int.reduceNeg, Int.reduceBEq, Int.reduceBNe, ↓reduceIte, reduceCtorEq, hid, getSet hid, List.set_set, List.length_set, w1, w2, z1, hz] <;> try simp (disch := omega) only [wrap_of])) | (refine hn _ _ ?_; clear hn hp Kn Kp) | (refine hp _ _ _ ?_; clear hn hp Kn Kp) | (refine awp_cond rfl (fun hb => ?_) (fun hb => ?_) <;> (try simp only [decide_eq_true_eq, decide_eq_false_iff_not, Bool.not_eq_true', Bool.not_eq_false', Bool.true_eq_false, Bool.false_eq_true, beq_iff_eq, bne_iff_ne, bne_eq_false_iff_eq, beq_eq_false_iff_ne, gt_iff_lt, ge_iff_le, Int.reduceEq, Int.reduceNe, Int.reduceLT, Int.reduceLE, ne_eq, not_true_eq_false, not_false_eq_true] at hb)) | ((first | refine awg_split (fun hb => ?_) (fun hb => ?_) | refine awsg_split (fun hb => ?_) (fun hb => ?_)) <;> have hb0 := hb <;> (try simp only [decide_eq_true_eq, decide_eq_false_iff_not, Bool.not_eq_true', Bool.not_eq_false', Bool.true_eq_false, Bool.false_eq_true, beq_iff_eq, bne_iff_ne, bne_eq_false_iff_eq, beq_eq_false_iff_ne, gt_iff_lt, ge_iff_le, Int.reduceEq, Int.reduceNe, Int.reduceLT, Int.reduceLE, ne_eq, not_true_eq_false, not_false_eq_true] at hb0) <;> (try simp only [beq_true, beq_false, Bool.not_eq_true', Bool.not_eq_false'] at hb) <;> (simp only [go_sem, Nat.reduceAdd, Nat.reduceSub, Nat.reduceMul, Nat.reduceLeDiff, Nat.reduceLT, Nat.reduceEqDiff, Int.reduceToNat, Int.reduceAdd, Int.reduceMul, Int.reduceSub, Int.reduceLT, Int.reduceLE, Int.reduceEq, Int.reduceNeg, Int.reduceBEq, Int.reduceBNe, ↓reduceIte, reduceCtorEq, hid, getSet hid, List.set_set, List.length_set, w1, w2, z1, hz, hb, hb0] <;> try simp (disch := omega) only [wrap_of])) | (refine And.intro ?_ ?_) | refine awp_skip ?_ | refine awp_ret ?_ | refine awp_exit ?_ | refine awp_label ?_ | refine awloop_step ?_ | fail)
  ((try simp only [go_sem, Nat.reduceAdd, Nat.reduceSub, Nat.reduceMul, Nat.reduceLeDiff, Nat.reduceLT, Nat.reduceEqDiff, Int.reduceToNat, Int.reduceAdd, Int.reduceMul, Int.reduceSub, Int.reduceLT, Int.reduceLE, Int.reduceEq, Int.reduceNeg, Int.reduceBEq, Int.reduceBNe, ↓reduceIte, reduceCtorEq]); (first | refine ⟨_, rfl, _, rfl, Fin.set0 1 ?_ ?_⟩ | refine ⟨_, rfl, _, rfl, Fin.set 1 ?_ ?_⟩))
  · exact mc_under hb0'
  · simp only [AV.low]
theorem calc7_ok (k : Nat) (a b : Int) (hka : stk[k]? = some a) (hkb : stk[k + 1]? = some b) (ha : isV a) (hb' : isV b) (H0 : List AObj) (hid : H0[id]? = some (.cells 54 (mc vs is n i0 i1 i2 i3 stk (k + 1 + 1 : Nat) at' st))) (hb0' : is < H0.length) (hz : b ≠ 0) (hv : isV (downS a b)) :
    ARun Tryd.prog 41 [.p id 0, .i 7] H0 (.ret (.i 0) (H0.set id (.cells 54 (mc vs is n i0 i1 i2 i3 (stk.set k (downS a b)) (k + 1 : Nat) at' st)))) := by
  have hk64 : k + 1 < 64 := by have := (List.getElem?_eq_some_iff.1 hkb).1; omega
  have z1 : (b == 0) = false := by simpa using hz
  (refine ARun.intro Tryd.func41 rfl Tryd.call41 Tryd.ntmps41 Tryd.results41 ?_; simp only [List.length_cons, List.length_nil, List.length_map, Nat.reduceAdd, Nat.reduceSub, List.replicate_succ, List.replicate_zero, List.cons_append, List.nil_append])
  repeat' (first | refine awp_seq ?_ | refine awp_block ?_ | refine awp_scope ?_ | ((first | refine awp_region_k fun Kn Kp hn hp => ?_ | refine oge_intro (by assumption) ?_ | (show AWE _ _ _ _ _ _ _ _ _; first | refine awe_intro (pop_run vs is n i0 i1 i2 i3 stk hs at' st id (k + 1) b hkb _ hid hb0') ?_ | refine awe_intro (pop_run vs is n i0 i1 i2 i3 stk hs at' st id k a hka _ (getSet hid _) (by simpa using hb0')) ?_ | refine awe_intro (down_run a b ha hz _) ?_ | refine awe_intro (push_run vs is n i0 i1 i2 i3 stk hs at' st id k (downS a b) (by omega) _ (getSet hid _) (by simpa using hb0') hv) ?_) | (show AWSF _ _ _ _ _ _ _ _ _ _ _; first | refine awsf_intro (pop_run vs is n i0 i1 i2 i3 stk hs at' st id (k + 1) b hkb _ hid hb0') (fun hrun => ?_) | refine awsf_intro (pop_run vs is n i0 i1 i2 i3 stk hs at' st id k a hka _ (getSet hid _) (by simpa using hb0')) (fun hrun => ?_) | refine awsf_intro (down_run a b ha hz _) (fun hrun => ?_) | refine awsf_intro (push_run vs is n i0 i1 i2 i3 stk hs at' st id k (downS a b) (by omega) _ (getSet hid _) (by simpa using hb0') hv) (fun hrun => ?_)) | (show OGE _ _ _ _ _ _ _; first | refine oge_intro (pop_run vs is n i0 i1 i2 i3 stk hs at' st id (k + 1) b hkb _ hid hb0') ?_ | refine oge_intro (pop_run vs is n i0 i1 i2 i3 stk hs at' st id k a hka _ (getSet hid _) (by simpa using hb0')) ?_ | refine oge_intro (down_run a b ha hz _) ?_ | refine oge_intro (push_run vs is n i0 i1 i2 i3 stk hs at' st id k (downS a b) (by omega) _ (getSet hid _) (by simpa using hb0') hv) ?_) | (show AWSE _ _ _ _ _ _ _ _ _ _ _; first | refine awse_intro (pop_run vs is n i0 i1 i2 i3 stk hs at' st id (k + 1) b hkb _ hid hb0') (fun hrun => ?_) | refine awse_intro (pop_run vs is n i0 i1 i2 i3 stk hs at' st id k a hka _ (getSet hid _) (by simpa using hb0')) (fun hrun => ?_) | refine awse_intro (down_run a b ha hz _) (fun hrun => ?_) | refine awse_intro (push_run vs is n i0 i1 i2 i3 stk hs at' st id k (downS a b) (by omega) _ (getSet hid _) (by simpa using hb0') hv) (fun hrun => ?_)) | (show PGE _ _ _ _ _; first | refine pge_intro (pop_run vs is n i0 i1 i2 i3 stk hs at' st id (k + 1) b hkb _ hid hb0') (fun tm' => ?_) | refine pge_intro (pop_run vs is n i0 i1 i2 i3 stk hs at' st id k a hka _ (getSet hid _) (by simpa using hb0')) (fun tm' => ?_) | refine pge_intro (down_run a b ha hz _) (fun tm' => ?_) | refine pge_intro (push_run vs is n i0 i1 i2 i3 stk hs at' st id k (downS a b) (by omega) _ (getSet hid _) (by simpa using hb0') hv) (fun tm' => ?_))) <;> (simp only [go_sem, Nat.reduceAdd, Nat.reduceSub, Nat.reduceMul, Nat.reduceLeDiff, Nat.reduceLT, Nat.reduceEqDiff, Int.reduceToNat, Int.reduceAdd, Int.reduceMul, Int.reduceSub, Int.reduceLT, Int.reduceLE, Int.reduceEq, Int.reduceNeg, Int.reduceBEq, Int.reduceBNe, ↓reduceIte, reduceCtorEq, hid, getSet hid, List.set_set, List.length_set, z1, hz] <;> try simp (disch := omega) only [wrap_of])) | (refine hn _ _ ?_; clear hn hp Kn Kp) | (refine hp _ _ _ ?_; clear hn hp Kn Kp) | (refine awp_cond rfl (fun hb => ?_) (fun hb => ?_) <;> (try simp only [decide_eq_true_eq, decide_eq_false_iff_not, Bool.not_eq_true', Bool.not_eq_false', Bool.true_eq_false, Bool.false_eq_true, beq_iff_eq, bne_iff_ne, bne_eq_false_iff_eq, beq_eq_false_iff_ne, gt_iff_lt, ge_iff_le, Int.reduceEq, Int.reduceNe, Int.reduceLT, Int.reduceLE, ne_eq, not_true_eq_false, not_false_eq_true] at hb)) | ((first | refine awg_split (fun hb => ?_) (fun hb => ?_) | refine awsg_split (fun hb => ?_) (fun hb => ?_)) <;> have hb0 := hb <;> (try simp only [decide_eq_true_eq, decide_eq_false_iff_not, Bool.not_eq_true', Bool.not_eq_false', Bool.true_eq_false, Bool.false_eq_true, beq_iff_eq, bne_iff_ne, bne_eq_false_iff_eq, beq_eq_false_iff_ne, gt_iff_lt, ge_iff_le, Int.reduceEq, Int.reduceNe, Int.reduceLT, Int.reduceLE, ne_eq, not_true_eq_false, not_false_eq_true] at hb0) <;> (try simp only [beq_true, beq_false, Bool.not_eq_true', Bool.not_eq_false'] at hb) <;> (simp only [go_sem, Nat.reduceAdd, Nat.reduceSub, Nat.reduceMul, Nat.reduceLeDiff, Nat.reduceLT, Nat.reduceEqDiff, Int.reduceToNat, Int.reduceAdd, Int.reduceMul, Int.reduceSub, Int.reduceLT, Int.reduceLE, Int.reduceEq, Int.reduceNeg, Int.reduceBEq, Int.reduceBNe, ↓reduceIte, reduceCtorEq, hid, getSet hid, List.set_set, List.length_set, z1, hz, hb, hb0] <;> try simp (disch := omega) only [wrap_of])) | (refine And.intro ?_ ?_) | refine awp_skip ?_ | refine awp_ret ?_ | refine awp_exit ?_ | refine awp_label ?_ | refine awloop_step ?_ | fail)
  ((try simp only [go_sem, Nat.reduceAdd, Nat.reduceSub, Nat.reduceMul, Nat.reduceLeDiff, Nat.reduceLT, Nat.reduceEqDiff, Int.reduceToNat, Int.reduceAdd, Int.reduceMul, Int.reduceSub, Int.reduceLT, Int.reduceLE, Int.reduceEq, Int.reduceNeg, Int.reduceBEq, Int.reduceBNe, ↓reduceIte, reduceCtorEq]); (first | refine ⟨_, rfl, _, rfl, Fin.set0 1 ?_ ?_⟩ | refine ⟨_, rfl, _, rfl, Fin.set 1 ?_ ?_⟩))
  · exact mc_under hb0'
  · simp only [AV.low]
theorem calc7_bad (k : Nat) (a b : Int) (hka : stk[k]? = some a) (hkb : stk[k + 1]? = some b) (ha : isV a) (hb' : isV b) (H0 : List AObj) (hid : H0[id]? = some (.cells 54 (mc vs is n i0 i1 i2 i3 stk (k + 1 + 1 : Nat) at' st))) (hb0' : is < H0.length) (hz : b ≠ 0) (hv : ¬ isV (downS a b)) :
    ARun Tryd.prog 41 [.p id 0, .i 7] H0 (.ret (.i 3) (H0.set id (.cells 54 (mc vs is n i0 i1 i2 i3 stk (k : Nat) at' st)))) := by
  have hk64 : k + 1 < 64 := by have := (List.getElem?_eq_some_iff.1 hkb).1; omega
  have z1 : (b == 0) = false := by simpa using hz
  (refine ARun.intro Tryd.func41 rfl Tryd.call41 Tryd.ntmps41 Tryd.results41 ?_; simp only [List.length_cons, List.length_nil, List.length_map, Nat.reduceAdd, Nat.reduceSub, List.replicate_succ, List.replicate_zero, List.cons_append, List.nil_append])
  repeat' (first | refine awp_seq ?_ | refine awp_block ?_ | refine awp_scope ?_ | ((first | refine awp_region_k fun Kn Kp hn hp => ?_ | refine oge_intro (by assumption) ?_ | (show AWE _ _ _ _ _ _ _ _ _; first | refine awe_intro (pop_run vs is n i0 i1 i2 i3 stk hs at' st id (k + 1) b hkb _ hid hb0') ?_ | refine awe_intro (pop_run vs is n i0 i1 i2 i3 stk hs at' st id k a hka _ (getSet hid _) (by simpa using hb0')) ?_ | refine awe_intro (down_run a b ha hz _) ?_ | refine awe_intro (push_bad id (downS a b) _ hv) ?_) | (show AWSF _ _ _ _ _ _ _ _ _ _ _; first | refine awsf_intro (pop_run vs is n i0 i1 i2 i3 stk hs at' st id (k + 1) b hkb _ hid hb0') (fun hrun => ?_) | refine awsf_intro (pop_run vs is n i0 i1 i2 i3 stk hs at' st id k a hka _ (getSet hid _) (by simpa using hb0')) (fun hrun => ?_) | refine awsf_intro (down_run a b ha hz _) (fun hrun => ?_) | refine awsf_intro (push_bad id (downS a b) _ hv) (fun hrun => ?_)) | (show OGE _ _ _ _ _ _ _; first | refine oge_intro (pop_run vs is n i0 i1 i2 i3 stk hs at' st id (k + 1) b hkb _ hid hb0') ?_ | refine oge_intro (pop_run vs is n i0 i1 i2 i3 stk hs at' st id k a hka _ (getSet hid _) (by simpa using hb0')) ?_ | refine oge_intro (down_run a b ha hz _) ?_ | refine oge_intro (push_bad id (downS a b) _ hv) ?_) | (show AWSE _ _ _ _ _ _ _ _ _ _ _; first | refine awse_intro (pop_run vs is n i0 i1 i2 i3 stk hs at' st id (k + 1) b hkb _ hid hb0') (fun hrun => ?_) | refine awse_intro (pop_run vs is n i0 i1 i2 i3 stk hs at' st id k a hka _ (getSet hid _) (by simpa using hb0')) (fun hrun => ?_) | refine awse_intro (down_run a b ha hz _) (fun hrun => ?_) | refine awse_intro (push_bad id (downS a b) _ hv) (fun hrun => ?_)) | (show PGE _ _ _ _ _; first | refine pge_intro (pop_run vs is n i0 i1 i2 i3 stk hs at' st id (k + 1) b hkb _ hid hb0') (fun tm' => ?_) | refine pge_intro (pop_run vs is n i0 i1 i2 i3 stk hs at' st id k a hka _ (getSet hid _) (by simpa using hb0')) (fun tm' => ?_) | refine pge_intro (down_run a b ha hz _) (fun tm' => ?_) | refine pge_intro (push_bad id (downS a b) _ hv) (fun tm' => ?_))) <;> (simp only [go_sem, Nat.reduceAdd, Nat.reduceSub, Nat.reduceMul, Nat.reduceLeDiff, Nat.reduceLT, Nat.reduceEqDiff, Int.reduceToNat, Int.reduceAdd, Int.reduceMul, Int.reduceSub, Int.reduceLT, Int.reduceLE, Int.reduceEq, Int.reduceNeg, Int.reduceBEq, Int.reduceBNe, ↓reduceIte, reduceCtorEq, hid, getSet hid, List.set_set, List.length_set, z1, hz] <;> try simp (disch := omega) only [wrap_of])) | (refine hn _ _ ?_; clear hn hp Kn Kp) | (refine hp _ _ _ ?_; clear hn hp Kn Kp) | (refine awp_cond rfl (fun hb => ?_) (fun hb => ?_) <;> (try simp only [decide_eq_true_eq, decide_eq_false_iff_not, Bool.not_eq_true', Bool.not_eq_false', Bool.true_eq_false, Bool.false_eq_true, beq_iff_eq, bne_iff_ne, bne_eq_false_iff_eq, beq_eq_false_iff_ne, gt_iff_lt, ge_iff_le, Int.reduceEq, Int.reduceNe, Int.reduceLT, Int.reduceLE, ne_eq, not_true_eq_false, not_false_eq_true] at hb)) | ((first | refine awg_split (fun hb => ?_) (fun hb => ?_) | refine awsg_split (fun hb => ?_) (fun hb => ?_)) <;> have hb0 := hb <;> (try simp only [decide_eq_true_eq, decide_eq_false_iff_not, Bool.not_eq_true', Bool.not_eq_false', Bool.true_eq_false, Bool.false_eq_true, beq_iff_eq, bne_iff_ne, bne_eq_false_iff_eq, beq_eq_false_iff_ne, gt_iff_lt, ge_iff_le, Int.reduceEq, Int.reduceNe, Int.reduceLT, Int.reduceLE, ne_eq, not_true_eq_false, not_false_eq_true] at hb0) <;> (try simp only [beq_true, beq_false, Bool.not_eq_true', Bool.not_eq_false'] at hb) <;> (simp only [go_sem, Nat.reduceAdd, Nat.reduceSub, Nat.reduceMul, Nat.reduceLeDiff, Nat.reduceLT, Nat.reduceEqDiff, Int.reduceToNat, Int.reduceAdd, Int.reduceMul, Int.reduceSub, Int.reduceLT, Int.reduceLE, Int.reduceEq, Int.reduceNeg, Int.reduceBEq, Int.reduceBNe, ↓reduceIte, reduceCtorEq, hid, getSet hid, List.set_set, List.length_set, z1, hz, hb, hb0] <;> try simp (disch := omega) only [wrap_of])) | (refine And.intro ?_ ?_) | refine awp_skip ?_ | refine awp_ret ?_ | refine awp_exit ?_ | refine awp_label ?_ | refine awloop_step ?_ | fail)
  ((try simp only [go_sem, Nat.reduceAdd, Nat.reduceSub, Nat.reduceMul, Nat.reduceLeDiff, Nat.reduceLT, Nat.reduceEqDiff, Int.reduceToNat, Int.reduceAdd, Int.reduceMul, Int.reduceSub, Int.reduceLT, Int.reduceLE, Int.reduceEq, Int.reduceNeg, Int.reduceBEq, Int.reduceBNe, ↓reduceIte, reduceCtorEq]); (first | refine ⟨_, rfl, _, rfl, Fin.set0 1 ?_ ?_⟩ | refine ⟨_, rfl, _, rfl, Fin.set 1 ?_ ?_⟩))
  · exact mc_under hb0'
  · simp only [AV.low]
theorem calc7_zero (k : Nat) (a b : Int) (hka : stk[k]? = some a) (hkb : stk[k + 1]? = some b) (ha : isV a) (hb' : isV b) (H0 : List AObj) (hid : H0[id]? = some (.cells 54 (mc vs is n i0 i1 i2 i3 stk (k + 1 + 1 : Nat) at' st))) (hb0' : is < H0.length) (hz : b = 0) :
    ARun Tryd.prog 41 [.p id 0, .i 7] H0 (.ret (.i 14) (H0.set id (.cells 54 (mc vs is n i0 i1 i2 i3 stk (k : Nat) at' st)))) := by
  have hk64 : k + 1 < 64 := by have := (List.getElem?_eq_some_iff.1 hkb).1; omega
  (refine ARun.intro Tryd.func41 rfl Tryd.call41 Tryd.ntmps41 Tryd.results41 ?_; simp only [List.length_cons, List.length_nil, List.length_map, Nat.reduceAdd, Nat.reduceSub, List.replicate_succ, List.replicate_zero, List.cons_append, List.nil_append])
  repeat' (first | refine awp_seq ?_ | refine awp_block ?_ | refine awp_scope ?_ | ((first | refine awp_region_k fun Kn Kp hn hp => ?_ | refine oge_intro (by assumption) ?_ | (show AWE _ _ _ _ _ _ _ _ _; first | refine awe_intro (pop_run vs is n i0 i1 i2 i3 stk hs at' st id (k + 1) b hkb _ hid hb0') ?_ | refine awe_intro (pop_run vs is n i0 i1 i2 i3 stk hs at' st id k a hka _ (getSet hid _) (by simpa using hb0')) ?_) | (show AWSF _ _ _ _ _ _ _ _ _ _ _; first | refine awsf_intro (pop_run vs is n i0 i1 i2 i3 stk hs at' st id (k + 1) b hkb _ hid hb0') (fun hrun => ?_) | refine awsf_intro (pop_run vs is n i0 i1 i2 i3 stk hs at' st id k a hka _ (getSet hid _) (by simpa using hb0')) (fun hrun => ?_)) | (show OGE _ _ _ _ _ _ _; first | refine oge_intro (pop_run vs is n i0 i1 i2 i3 stk hs at' st id (k + 1) b hkb _ hid hb0') ?_ | refine oge_intro (pop_run vs is n i0 i1 i2 i3 stk hs at' st id k a hka _ (getSet hid _) (by simpa using hb0')) ?_) | (show AWSE _ _ _ _ _ _ _ _ _ _ _; first | refine awse_intro (pop_run vs is n i0 i1 i2 i3 stk hs at' st id (k + 1) b hkb _ hid hb0') (fun hrun => ?_) | refine awse_intro (pop_run vs is n i0 i1 i2 i3 stk hs at' st id k a hka _ (getSet hid _) (by simpa using hb0')) (fun hrun => ?_)) | (show PGE _ _ _ _ _; first | refine pge_intro (pop_run vs is n i0 i1 i2 i3 stk hs at' st id (k + 1) b hkb _ hid hb0') (fun tm' => ?_) | refine pge_intro (pop_run vs is n i0 i1 i2 i3 stk hs at' st id k a hka _ (getSet hid _) (by simpa using hb0')) (fun tm' => ?_))) <;> (simp only [go_sem, Nat.reduceAdd, Nat.reduceSub, Nat.reduceMul, Nat.reduceLeDiff, Nat.reduceLT, Nat.reduceEqDiff, Int.reduceToNat, Int.reduceAdd, Int.reduceMul, Int.reduceSub, Int.reduceLT, Int.reduceLE, Int.reduceEq, Int.reduceNeg, Int.reduceBEq, Int.reduceBNe, ↓reduceIte, reduceCtorEq, hid, getSet hid, List.set_set, List.length_set, hz] <;> try simp (disch := omega) only [wrap_of])) | (refine hn _ _ ?_; clear hn hp Kn Kp) | (refine hp _ _ _ ?_; clear hn hp Kn Kp) | (refine awp_cond rfl (fun hb => ?_) (fun hb => ?_) <;> (try simp only [decide_eq_true_eq, decide_eq_false_iff_not, Bool.not_eq_true', Bool.not_eq_false', Bool.true_eq_false, Bool.false_eq_true, beq_iff_eq, bne_iff_ne, bne_eq_false_iff_eq, beq_eq_false_iff_ne, gt_iff_lt, ge_iff_le, Int.reduceEq, Int.reduceNe, Int.reduceLT, Int.reduceLE, ne_eq, not_true_eq_false, not_false_eq_true] at hb)) | ((first | refine awg_split (fun hb => ?_) (fun hb => ?_) | refine awsg_split (fun hb => ?_) (fun hb => ?_)) <;> have hb0 := hb <;> (try simp only [decide_eq_true_eq, decide_eq_false_iff_not, Bool.not_eq_true', Bool.not_eq_false', Bool.true_eq_false, Bool.false_eq_true, beq_iff_eq, bne_iff_ne, bne_eq_false_iff_eq, beq_eq_false_iff_ne, gt_iff_lt, ge_iff_le, Int.reduceEq, Int.reduceNe, Int.reduceLT, Int.reduceLE, ne_eq, not_true_eq_false, not_false_eq_true] at hb0) <;> (try simp only [beq_true, beq_false, Bool.not_eq_true', Bool.not_eq_false'] at hb) <;> (simp only [go_sem, Nat.reduceAdd, Nat.reduceSub, Nat.reduceMul, Nat.reduceLeDiff, Nat.reduceLT, Nat.reduceEqDiff, Int.reduceToNat, Int.reduceAdd, Int.reduceMul, Int.reduceSub, Int.reduceLT, Int.reduceLE, Int.reduceEq, Int.reduceNeg, Int.reduceBEq, Int.reduceBNe, ↓reduceIte, reduceCtorEq, hid, getSet hid, List.set_set, List.length_set, hz, hb, hb0] <;> try simp (disch := omega) only [wrap_of])) | (refine And.intro ?_ ?_) | refine awp_skip ?_ | refine awp_ret ?_ | refine awp_exit ?_ | refine awp_label ?_ | refine awloop_step ?_ | fail)
  ((try simp only [go_sem, Nat.reduceAdd, Nat.reduceSub, Nat.reduceMul, Nat.reduceLeDiff, Nat.reduceLT, Nat.reduceEqDiff, Int.reduceToNat, Int.reduceAdd, Int.reduceMul, Int.reduceSub, Int.reduceLT, Int.reduceLE, Int.reduceEq, Int.reduceNeg, Int.reduceBEq, Int.reduceBNe, ↓reduceIte, reduceCtorEq]); (first | refine ⟨_, rfl, _, rfl, Fin.set0 1 ?_ ?_⟩ | refine ⟨_, rfl, _, rfl, Fin.set 1 ?_ ?_⟩))
  · exact mc_under hb0'
  · simp only [AV.low]
theorem calc8_zero (k : Nat) (a b : Int) (hka : stk[k]? = some a) (hkb : stk[k + 1]? = some b) (ha : isV a) (hb' : isV b) (H0 : List AObj) (hid : H0[id]? = some (.cells 54 (mc vs is n i0 i1 i2 i3 stk (k + 1 + 1 : Nat) at' st))) (hb0' : is < H0.length) (hz : b = 0) :
    ARun Tryd.prog 41 [.p id 0, .i 8] H0 (.ret (.i 14) (H0.set id (.cells 54 (mc vs is n i0 i1 i2 i3 stk (k : Nat) at' st)))) := by
  have hk64 : k + 1 < 64 := by have := (List.getElem?_eq_some_iff.1 hkb).1; omega
  (refine ARun.intro Tryd.func41 rfl Tryd.call41 Tryd.ntmps41 Tryd.results41 ?_; simp only [List.length_cons, List.length_nil, List.length_map, Nat.reduceAdd, Nat.reduceSub, List.replicate_succ, List.replicate_zero, List.cons_append, List.nil_append])
  repeat' (first | refine awp_seq ?_ | refine awp_block ?_ | refine awp_scope ?_ | ((first | refine awp_region_k fun Kn Kp hn hp => ?_ | refine oge_intro (by assumption) ?_ | (show AWE _ _ _ _ _ _ _ _ _; first | refine awe_intro (pop_run vs is n i0 i1 i2 i3 stk hs at' st id (k + 1) b hkb _ hid hb0') ?_ | refine awe_intro (pop_run vs is n i0 i1 i2 i3 stk hs at' st id k a hka _ (getSet hid _) (by simpa using hb0')) ?_) | (show AWSF _ _ _ _ _ _ _ _ _ _ _; first | refine awsf_intro (pop_run vs is n i0 i1 i2 i3 stk hs at' st id (k + 1) b hkb _ hid hb0') (fun hrun => ?_) | refine awsf_intro (pop_run vs is n i0 i1 i2 i3 stk hs at' st id k a hka _ (getSet hid _) (by simpa using hb0')) (fun hrun => ?_)) | (show OGE _ _ _ _ _ _ _; first | refine oge_intro (pop_run vs is n i0 i1 i2 i3 stk hs at' st id (k + 1) b hkb _ hid hb0') ?_ | refine oge_intro (pop_run vs is n i0 i1 i2 i3 stk hs at' st id k a hka _ (getSet hid _) (by simpa using hb0')) ?_) | (show AWSE _ _ _ _ _ _ _ _ _ _ _; first | refine awse_intro (pop_run vs is n i0 i1 i2 i3 stk hs at' st id (k + 1) b hkb _ hid hb0') (fun hrun => ?_) | refine awse_intro (pop_run vs is n i0 i1 i2 i3 stk hs at' st id k a hka _ (getSet hid _) (by simpa using hb0')) (fun hrun => ?_)) | (show PGE _ _ _ _ _; first | refine pge_intro (pop_run vs is n i0 i1 i2 i3 stk hs at' st id (k + 1) b hkb _ hid hb0') (fun tm' => ?_) | refine pge_intro (pop_run vs is n i0 i1 i2 i3 stk hs at' st id k a hka _ (getSet hid _) (by simpa using hb0')) (fun tm' => ?_))) <;> (simp only [go_sem, Nat.reduceAdd, Nat.reduceSub, Nat.reduceMul, Nat.reduceLeDiff, Nat.reduceLT, Nat.reduceEqDiff, Int.reduceToNat, Int.reduceAdd, Int.reduceMul, Int.reduceSub, Int.reduceLT, Int.reduceLE, Int.reduceEq, Int.reduceNeg, Int.reduceBEq, Int.reduceBNe, ↓reduceIte, reduceCtorEq, hid, getSet hid, List.set_set, List.length_set, hz] <;> try simp (disch := omega) only [wrap_of])) | (refine hn _ _ ?_; clear hn hp Kn Kp) | (refine hp _ _ _ ?_; clear hn hp Kn Kp) | (refine awp_cond rfl (fun hb => ?_) (fun hb => ?_) <;> (try simp only [decide_eq_true_eq, decide_eq_false_iff_not, Bool.not_eq_true', Bool.not_eq_false', Bool.true_eq_false, Bool.false_eq_true, beq_iff_eq, bne_iff_ne, bne_eq_false_iff_eq, beq_eq_false_iff_ne, gt_iff_lt, ge_iff_le, Int.reduceEq, Int.reduceNe, Int.reduceLT, Int.reduceLE, ne_eq, not_true_eq_false, not_false_eq_true] at hb)) | ((first | refine awg_split (fun hb => ?_) (fun hb => ?_) | refine awsg_split (fun hb => ?_) (fun hb => ?_)) <;> have hb0 := hb <;> (try simp only [decide_eq_true_eq, decide_eq_false_iff_not, Bool.not_eq_true', Bool.not_eq_false', Bool.true_eq_false, Bool.false_eq_true, beq_iff_eq, bne_iff_ne, bne_eq_false_iff_eq, beq_eq_false_iff_ne, gt_iff_lt, ge_iff_le, Int.reduceEq, Int.reduceNe, Int.reduceLT, Int.reduceLE, ne_eq, not_true_eq_false, not_false_eq_true] at hb0) <;> (try simp only [beq_true, beq_false, Bool.not_eq_true', Bool.not_eq_false'] at hb) <;> (simp only [go_sem, Nat.reduceAdd, Nat.reduceSub, Nat.reduceMul, Nat.reduceLeDiff, Nat.reduceLT, Nat.reduceEqDiff, Int.reduceToNat, Int.reduceAdd, Int.reduceMul, Int.reduceSub, Int.reduceLT, Int.reduceLE, Int.reduceEq, Int.reduceNeg, Int.reduceBEq, Int.reduceBNe, ↓reduceIte, reduceCtorEq, hid, getSet hid, List.set_set, List.length_set, hz, hb, hb0] <;> try simp (disch := omega) only [wrap_of])) | (refine And.intro ?_ ?_) | refine awp_skip ?_ | refine awp_ret ?_ | refine awp_exit ?_ | refine awp_label ?_ | refine awloop_step ?_ | fail)
  ((try simp only [go_sem, Nat.reduceAdd, Nat.reduceSub, Nat.reduceMul, Nat.reduceLeDiff, Nat.reduceLT, Nat.reduceEqDiff, Int.reduceToNat, Int.reduceAdd, Int.reduceMul, Int.reduceSub, Int.reduceLT, Int.reduceLE, Int.reduceEq, Int.reduceNeg, Int.reduceBEq, Int.reduceBNe, ↓reduceIte, reduceCtorEq]); (first | refine ⟨_, rfl, _, rfl, Fin.set0 1 ?_ ?_⟩ | refine ⟨_, rfl, _, rfl, Fin.set 1 ?_ ?_⟩))
  · exact mc_under hb0'
  · simp only [AV.low]
end
end Go.Proofs.YtimmncjdknlegaaDoor.Y

set_option maxHeartbeats 8000000
set_option maxRecDepth 20000
set_option linter.unusedVariables false
set_option linter.unusedSimpArgs false
set_option linter.unusedSectionVars false

namespace Go.Proofs.YtimmncjdknlegaaDoor.Y
open Go.Proofs.YtimmncjdknlegaaDoor.AL Go.Proofs Go
theorem dr29_3_X10d : Drawn Tryd.prog 3 (regOps 3 ((Tryd.f29.body).getD .skip)) [] [] [.win [0], .win [0], .win [0], .win [0], .win [0], .win [0]] 0 [] := ⟨rfl, by as_aux_lemma => kernel_rfl⟩
theorem dr29_8_X10d : Drawn Tryd.prog 8 (regOps 8 ((Tryd.f29.body).getD .skip)) [] [] [.win [0], .win [0], .win [0], .win [0], .win [0], .win [0], .win [0], .win [0], .win [0]] 0 [] := ⟨rfl, by as_aux_lemma => kernel_rfl⟩
theorem dr29_10_X10d : Drawn Tryd.prog 10 (regOps 10 ((Tryd.f29.body).getD .skip)) [] [] [.win [0], .win [0], .win [0], .win [0], .win [0], .win [0], .win [0], .win [0]] 0 [] := ⟨rfl, by as_aux_lemma => kernel_rfl⟩
theorem dr29_15_X10d : Drawn Tryd.prog 15 (regOps 15 ((Tryd.f29.body).getD .skip)) [1, 5] [] [.win [0], .eff 0, .win [0, 1], .win [0, 1], .win [0, 1], .eff 1, .win [2]] 2 [] := ⟨rfl, by as_aux_lemma => kernel_rfl⟩
theorem dr29_5_X10d : Drawn Tryd.prog 5 (regOps 5 ((Tryd.f29.body).getD .skip)) [] [] [.win [0], .win [0], .win [0], .win [0], .win [0], .win [0]] 0 [] := ⟨rfl, by as_aux_lemma => kernel_rfl⟩
theorem dr38_2_X10d : Drawn Tryd.prog 2 (regOps 2 ((Tryd.f38.body).getD .skip)) [17, 18] [] [.win [0, 1], .win [0, 1], .win [0, 1], .win [0, 1], .win [0, 1], .win [0, 1], .win [0, 1], .win [0, 1], .win [0, 1], .win [0, 1], .win [0, 1], .win [0, 1], .win [0, 1], .win [0, 1], .win [0, 1], .win [0, 1], .win [0], .eff 0, .eff 1, .win [2]] 2 [] := ⟨rfl, by as_aux_lemma => kernel_rfl⟩

section
variable (vs : List Vr) (is n : Nat) (i0 i1 i2 i3 : Int) (stk : List Int) (hs : stk.length = 64) (at' st : Int) (id : Nat)
include hs
theorem calc_ok (k : Nat) (op a b v : Int) (hop : 4 ≤ op ∧ op ≤ 10) (hc : calcS op a b = .ok v) (hka : stk[k]? = some a) (hkb : stk[k + 1]? = some b) (ha : isV a) (hb' : isV b) (H0 : List AObj) (hid : H0[id]? = some (.cells 54 (mc vs is n i0 i1 i2 i3 stk (k + 1 + 1 : Nat) at' st))) (hb0' : is < H0.length) :
    ARun Tryd.prog 41 [.p id 0, .i op] H0 (.ret (.i 0) (H0.set id (.cells 54 (mc vs is n i0 i1 i2 i3 (stk.set k v) (k + 1 : Nat) at' st)))) := by
  have h : op = 4 ∨ op = 5 ∨ op = 6 ∨ op = 7 ∨ op = 8 ∨ op = 9 ∨ op = 10 := by omega
  clear hop
  rcases h with rfl | rfl | rfl | rfl | rfl | rfl | rfl
  all_goals simp only [calcS, Int.reduceEq, if_false, if_true] at hc
  · obtain ⟨hv, rfl⟩ := valS_ok hc; exact calc4_ok vs is n i0 i1 i2 i3 stk hs at' st id k a b hka hkb ha hb' H0 hid hb0' hv
  · obtain ⟨hv, rfl⟩ := valS_ok hc; exact calc5_ok vs is n i0 i1 i2 i3 stk hs at' st id k a b hka hkb ha hb' H0 hid hb0' hv
  · obtain ⟨hv, rfl⟩ := valS_ok hc; exact calc6_ok vs is n i0 i1 i2 i3 stk hs at' st id k a b hka hkb ha hb' H0 hid hb0' hv
  · have hz : b ≠ 0 := by rintro rfl; simp at hc
    rw [if_neg hz] at hc
    obtain ⟨hv, rfl⟩ := valS_ok hc; exact calc7_ok vs is n i0 i1 i2 i3 stk hs at' st id k a b hka hkb ha hb' H0 hid hb0' hz hv
  · have hz : b ≠ 0 := by rintro rfl; simp at hc
    rw [if_neg hz] at hc
    obtain ⟨hv, rfl⟩ := valS_ok hc; exact calc8_ok vs is n i0 i1 i2 i3 stk hs at' st id k a b hka hkb ha hb' H0 hid hb0' hz hv
  · obtain ⟨hv, rfl⟩ := valS_ok hc; exact calc9_ok vs is n i0 i1 i2 i3 stk hs at' st id k a b hka hkb ha hb' H0 hid hb0' hv
  · obtain ⟨hv, rfl⟩ := valS_ok hc; exact calc10_ok vs is n i0 i1 i2 i3 stk hs at' st id k a b hka hkb ha hb' H0 hid hb0' hv
theorem calc_err (k : Nat) (op a b e : Int) (hop : 4 ≤ op ∧ op ≤ 10) (hc : calcS op a b = .error e) (hka : stk[k]? = some a) (hkb : stk[k + 1]? = some b) (ha : isV a) (hb' : isV b) (H0 : List AObj) (hid : H0[id]? = some (.cells 54 (mc vs is n i0 i1 i2 i3 stk (k + 1 + 1 : Nat) at' st))) (hb0' : is < H0.length) :
    ARun Tryd.prog 41 [.p id 0, .i op] H0 (.ret (.i e) (H0.set id (.cells 54 (mc vs is n i0 i1 i2 i3 stk (k : Nat) at' st)))) := by
  have h : op = 4 ∨ op = 5 ∨ op = 6 ∨ op = 7 ∨ op = 8 ∨ op = 9 ∨ op = 10 := by omega
  clear hop
  rcases h with rfl | rfl | rfl | rfl | rfl | rfl | rfl
  all_goals simp only [calcS, Int.reduceEq, if_false, if_true] at hc
  · obtain ⟨hv, rfl⟩ := valS_err hc; exact calc4_bad vs is n i0 i1 i2 i3 stk hs at' st id k a b hka hkb ha hb' H0 hid hb0' hv
  · obtain ⟨hv, rfl⟩ := valS_err hc; exact calc5_bad vs is n i0 i1 i2 i3 stk hs at' st id k a b hka hkb ha hb' H0 hid hb0' hv
  · obtain ⟨hv, rfl⟩ := valS_err hc; exact calc6_bad vs is n i0 i1 i2 i3 stk hs at' st id k a b hka hkb ha hb' H0 hid hb0' hv
  · by_cases hz : b = 0
    · rw [if_pos hz] at hc; cases hc; exact calc7_zero vs is n i0 i1 i2 i3 stk hs at' st id k a b hka hkb ha hb' H0 hid hb0' hz
    · rw [if_neg hz] at hc; obtain ⟨hv, rfl⟩ := valS_err hc; exact calc7_bad vs is n i0 i1 i2 i3 stk hs at' st id k a b hka hkb ha hb' H0 hid hb0' hz hv
  · by_cases hz : b = 0
    · rw [if_pos hz] at hc; cases hc; exact calc8_zero vs is n i0 i1 i2 i3 stk hs at' st id k a b hka hkb ha hb' H0 hid hb0' hz
    · rw [if_neg hz] at hc; obtain ⟨hv, rfl⟩ := valS_err hc; exact calc8_bad vs is n i0 i1 i2 i3 stk hs at' st id k a b hka hkb ha hb' H0 hid hb0' hz hv
  · obtain ⟨hv, rfl⟩ := valS_err hc; exact calc9_bad vs is n i0 i1 i2 i3 stk hs at' st id k a b hka hkb ha hb' H0 hid hb0' hv
  · obtain ⟨hv, rfl⟩ := valS_err hc; exact calc10_bad vs is n i0 i1 i2 i3 stk hs at' st id k a b hka hkb ha hb' H0 hid hb0' hv
theorem step_const (k : Nat) (x rel : Int) (hk : k < 64) (hv : isV x) (hat : at' + 1 < 100000 ∧ 0 ≤ at') (hst : st + 1 < 100000 ∧ 0 ≤ st) (H0 : List AObj) (hid : H0[id]? = some (.cells 54 (mc vs is n i0 i1 i2 i3 stk (k : Nat) at' st))) (hb0' : is < H0.length) :
    ARun Tryd.prog 29 [.p id 0, .agg [.i 1, .i x, .i rel]] H0 (.ret (.i 0) (H0.set id (.cells 54 (mc vs is n i0 i1 i2 i3 (stk.set k x) (k + 1 : Nat) (at' + 1) (st + 1))))) := by
  have wa : IntKind.i64.wrap (at' + 1) = at' + 1 := wrap_of (by omega) (by omega)
  have ws : IntKind.i64.wrap (st + 1) = st + 1 := wrap_of (by omega) (by omega)
  (refine ARun.intro Tryd.func29 rfl Tryd.call29 Tryd.ntmps29 Tryd.results29 ?_; simp only [List.length_cons, List.length_nil, List.length_map, Nat.reduceAdd, Nat.reduceSub, List.replicate_succ, List.replicate_zero, List.cons_append, List.nil_append])
  repeat' (first | refine awp_seq ?_ | refine awp_block ?_ | refine awp_scope ?_ | ((first | refine awp_region_k fun Kn Kp hn hp => ?_ | show AWP _ _ (Code.region 3 _ true) _ _ _; refine awp_drawn_k (id := 3) [] [] [.win [0], .win [0], .win [0], .win [0], .win [0], .win [0]] 0 rfl (by as_aux_lemma => kernel_rfl) fun Kn Kp hn hp => ?_ | show AWP _ _ (Code.region 8 _ true) _ _ _; refine awp_drawn_k (id := 8) [] [] [.win [0], .win [0], .win [0], .win [0], .win [0], .win [0], .win [0], .win [0], .win [0]] 0 rfl (by as_aux_lemma => kernel_rfl) fun Kn Kp hn hp => ?_ | show AWP _ _ (Code.region 10 _ true) _ _ _; refine awp_drawn_k (id := 10) [] [] [.win [0], .win [0], .win [0], .win [0], .win [0], .win [0], .win [0], .win [0]] 0 rfl (by as_aux_lemma => kernel_rfl) fun Kn Kp hn hp => ?_ | show AWP _ _ (Code.region 15 _ true) _ _ _; refine awp_drawn_k (id := 15) [1, 5] [] [.win [0], .eff 0, .win [0, 1], .win [0, 1], .win [0, 1], .eff 1, .win [2]] 2 rfl (by as_aux_lemma => kernel_rfl) fun Kn Kp hn hp => ?_ | show AWP _ _ (Code.region 5 _ true) _ _ _; refine awp_drawn_k (id := 5) [] [] [.win [0], .win [0], .win [0], .win [0], .win [0], .win [0]] 0 rfl (by as_aux_lemma => kernel_rfl) fun Kn Kp hn hp => ?_ | refine oge_intro (by assumption) ?_ | (show AWE _ _ _ _ _ _ _ _ _; first | refine awe_intro (push_run vs is n i0 i1 i2 i3 stk hs (at' + 1) (st + 1) id k x hk _ (getSetL hid _ _) (by simp only [List.length_append, List.length_set]; omega) hv) ?_) | (show AWSF _ _ _ _ _ _ _ _ _ _ _; first | refine awsf_intro (push_run vs is n i0 i1 i2 i3 stk hs (at' + 1) (st + 1) id k x hk _ (getSetL hid _ _) (by simp only [List.length_append, List.length_set]; omega) hv) (fun hrun => ?_)) | (show OGE _ _ _ _ _ _ _; first | refine oge_intro (push_run vs is n i0 i1 i2 i3 stk hs (at' + 1) (st + 1) id k x hk _ (getSetL hid _ _) (by simp only [List.length_append, List.length_set]; omega) hv) ?_) | (show AWSE _ _ _ _ _ _ _ _ _ _ _; first | refine awse_intro (push_run vs is n i0 i1 i2 i3 stk hs (at' + 1) (st + 1) id k x hk _ (getSetL hid _ _) (by simp only [List.length_append, List.length_set]; omega) hv) (fun hrun => ?_)) | (show PGE _ _ _ _ _; first | refine pge_intro (push_run vs is n i0 i1 i2 i3 stk hs (at' + 1) (st + 1) id k x hk _ (getSetL hid _ _) (by simp only [List.length_append, List.length_set]; omega) hv) (fun tm' => ?_))) <;> (simp only [go_sem, Nat.reduceAdd, Nat.reduceSub, Nat.reduceMul, Nat.reduceLeDiff, Nat.reduceLT, Nat.reduceEqDiff, Int.reduceToNat, Int.reduceAdd, Int.reduceMul, Int.reduceSub, Int.reduceLT, Int.reduceLE, Int.reduceEq, Int.reduceNeg, Int.reduceBEq, Int.reduceBNe, ↓reduceIte, reduceCtorEq, hid, getSet hid, getOut hid, setOut hid, getSetL hid, setSetL hid, List.set_set, List.length_set, mc_len hs, mc_at hs, mc_st hs, mc_setat hs, mc_setst hs, mc_state, mc_vars, wa, ws] <;> try simp (disch := omega) only [wrap_of])) | (refine hn _ _ ?_; clear hn hp Kn Kp) | (refine hp _ _ _ ?_; clear hn hp Kn Kp) | (refine awp_cond rfl (fun hb => ?_) (fun hb => ?_) <;> (try simp only [decide_eq_true_eq, decide_eq_false_iff_not, Bool.not_eq_true', Bool.not_eq_false', Bool.true_eq_false, Bool.false_eq_true, beq_iff_eq, bne_iff_ne, bne_eq_false_iff_eq, beq_eq_false_iff_ne, gt_iff_lt, ge_iff_le, Int.reduceEq, Int.reduceNe, Int.reduceLT, Int.reduceLE, ne_eq, not_true_eq_false, not_false_eq_true] at hb)) | ((first | refine awg_split (fun hb => ?_) (fun hb => ?_) | refine awsg_split (fun hb => ?_) (fun hb => ?_)) <;> have hb0 := hb <;> (try simp only [decide_eq_true_eq, decide_eq_false_iff_not, Bool.not_eq_true', Bool.not_eq_false', Bool.true_eq_false, Bool.false_eq_true, beq_iff_eq, bne_iff_ne, bne_eq_false_iff_eq, beq_eq_false_iff_ne, gt_iff_lt, ge_iff_le, Int.reduceEq, Int.reduceNe, Int.reduceLT, Int.reduceLE, ne_eq, not_true_eq_false, not_false_eq_true] at hb0) <;> (try simp only [beq_true, beq_false, Bool.not_eq_true', Bool.not_eq_false'] at hb) <;> (simp only [go_sem, Nat.reduceAdd, Nat.reduceSub, Nat.reduceMul, Nat.reduceLeDiff, Nat.reduceLT, Nat.reduceEqDiff, Int.reduceToNat, Int.reduceAdd, Int.reduceMul, Int.reduceSub, Int.reduceLT, Int.reduceLE, Int.reduceEq, Int.reduceNeg, Int.reduceBEq, Int.reduceBNe, ↓reduceIte, reduceCtorEq, hid, getSet hid, getOut hid, setOut hid, getSetL hid, setSetL hid, List.set_set, List.length_set, mc_len hs, mc_at hs, mc_st hs, mc_setat hs, mc_setst hs, mc_state, mc_vars, wa, ws, hb, hb0] <;> try simp (disch := omega) only [wrap_of])) | (refine And.intro ?_ ?_) | refine awp_skip ?_ | refine awp_ret ?_ | refine awp_exit ?_ | refine awp_label ?_ | refine awloop_step ?_ | fail)
  ((try simp only [go_sem, Nat.reduceAdd, Nat.reduceSub, Nat.reduceMul, Nat.reduceLeDiff, Nat.reduceLT, Nat.reduceEqDiff, Int.reduceToNat, Int.reduceAdd, Int.reduceMul, Int.reduceSub, Int.reduceLT, Int.reduceLE, Int.reduceEq, Int.reduceNeg, Int.reduceBEq, Int.reduceBNe, ↓reduceIte, reduceCtorEq]); (first | refine ⟨_, rfl, _, rfl, Fin.set0 1 ?_ ?_⟩ | refine ⟨_, rfl, _, rfl, Fin.set 1 ?_ ?_⟩))
  · exact mc_under hb0'
  · simp only [AV.low]
theorem step_var (k j : Nat) (v rel : Int) (hk : k < 64) (hv : isV v) (hat : at' + 1 < 100000 ∧ 0 ≤ at') (hst : st + 1 < 100000 ∧ 0 ≤ st) (H0 : List AObj) (hid : H0[id]? = some (.cells 54 (mc vs is n i0 i1 i2 i3 stk (k : Nat) at' st))) (hb0' : is < H0.length) (now : List Int) (hn' : now.length = n) (hix : H0[is]? = some (.arr 3 1 (now.map fun v => [AV.i v]))) (hne : id ≠ is) (hj : now[j]? = some v) :
    ARun Tryd.prog 29 [.p id 0, .agg [.i 2, .i (j : Nat), .i rel]] H0 (.ret (.i 0) (H0.set id (.cells 54 (mc vs is n i0 i1 i2 i3 (stk.set k v) (k + 1 : Nat) (at' + 1) (st + 1))))) := by
  have wa : IntKind.i64.wrap (at' + 1) = at' + 1 := wrap_of (by omega) (by omega)
  have ws : IntKind.i64.wrap (st + 1) = st + 1 := wrap_of (by omega) (by omega)
  have hjn : (j : Int) < n := by have := (List.getElem?_eq_some_iff.1 hj).1; omega
  (refine ARun.intro Tryd.func29 rfl Tryd.call29 Tryd.ntmps29 Tryd.results29 ?_; simp only [List.length_cons, List.length_nil, List.length_map, Nat.reduceAdd, Nat.reduceSub, List.replicate_succ, List.replicate_zero, List.cons_append, List.nil_append])
  repeat' (first | refine awp_seq ?_ | refine awp_block ?_ | refine awp_scope ?_ | ((first | refine awp_region_k fun Kn Kp hn hp => ?_ | show AWP _ _ (Code.region 3 _ true) _ _ _; refine awp_drawn_k (id := 3) [] [] [.win [0], .win [0], .win [0], .win [0], .win [0], .win [0]] 0 rfl (by as_aux_lemma => kernel_rfl) fun Kn Kp hn hp => ?_ | show AWP _ _ (Code.region 8 _ true) _ _ _; refine awp_drawn_k (id := 8) [] [] [.win [0], .win [0], .win [0], .win [0], .win [0], .win [0], .win [0], .win [0], .win [0]] 0 rfl (by as_aux_lemma => kernel_rfl) fun Kn Kp hn hp => ?_ | show AWP _ _ (Code.region 10 _ true) _ _ _; refine awp_drawn_k (id := 10) [] [] [.win [0], .win [0], .win [0], .win [0], .win [0], .win [0], .win [0], .win [0]] 0 rfl (by as_aux_lemma => kernel_rfl) fun Kn Kp hn hp => ?_ | show AWP _ _ (Code.region 15 _ true) _ _ _; refine awp_drawn_k (id := 15) [1, 5] [] [.win [0], .eff 0, .win [0, 1], .win [0, 1], .win [0, 1], .eff 1, .win [2]] 2 rfl (by as_aux_lemma => kernel_rfl) fun Kn Kp hn hp => ?_ | show AWP _ _ (Code.region 5 _ true) _ _ _; refine awp_drawn_k (id := 5) [] [] [.win [0], .win [0], .win [0], .win [0], .win [0], .win [0]] 0 rfl (by as_aux_lemma => kernel_rfl) fun Kn Kp hn hp => ?_ | refine oge_intro (by assumption) ?_ | (show AWE _ _ _ _ _ _ _ _ _; first | refine awe_intro (push_run vs is n i0 i1 i2 i3 stk hs (at' + 1) (st + 1) id k v hk _ (getSetL hid _ _) (by simp only [List.length_append, List.length_set]; omega) hv) ?_) | (show AWSF _ _ _ _ _ _ _ _ _ _ _; first | refine awsf_intro (push_run vs is n i0 i1 i2 i3 stk hs (at' + 1) (st + 1) id k v hk _ (getSetL hid _ _) (by simp only [List.length_append, List.length_set]; omega) hv) (fun hrun => ?_)) | (show OGE _ _ _ _ _ _ _; first | refine oge_intro (push_run vs is n i0 i1 i2 i3 stk hs (at' + 1) (st + 1) id k v hk _ (getSetL hid _ _) (by simp only [List.length_append, List.length_set]; omega) hv) ?_) | (show AWSE _ _ _ _ _ _ _ _ _ _ _; first | refine awse_intro (push_run vs is n i0 i1 i2 i3 stk hs (at' + 1) (st + 1) id k v hk _ (getSetL hid _ _) (by simp only [List.length_append, List.length_set]; omega) hv) (fun hrun => ?_)) | (show PGE _ _ _ _ _; first | refine pge_intro (push_run vs is n i0 i1 i2 i3 stk hs (at' + 1) (st + 1) id k v hk _ (getSetL hid _ _) (by simp only [List.length_append, List.length_set]; omega) hv) (fun tm' => ?_))) <;> (simp only [go_sem, Nat.reduceAdd, Nat.reduceSub, Nat.reduceMul, Nat.reduceLeDiff, Nat.reduceLT, Nat.reduceEqDiff, Int.reduceToNat, Int.reduceAdd, Int.reduceMul, Int.reduceSub, Int.reduceLT, Int.reduceLE, Int.reduceEq, Int.reduceNeg, Int.reduceBEq, Int.reduceBNe, ↓reduceIte, reduceCtorEq, hid, getSet hid, getOut hid, setOut hid, getSetL hid, setSetL hid, List.set_set, List.length_set, mc_len hs, mc_at hs, mc_st hs, mc_setat hs, mc_setst hs, mc_state, mc_vars, wa, ws, getNe hix hne, getNeL hix hne, List.getElem?_map, hj, Option.map_some, hjn, Int.toNat_natCast, List.length_map, hn'] <;> try simp (disch := omega) only [wrap_of])) | (refine hn _ _ ?_; clear hn hp Kn Kp) | (refine hp _ _ _ ?_; clear hn hp Kn Kp) | (refine awp_cond rfl (fun hb => ?_) (fun hb => ?_) <;> (try simp only [decide_eq_true_eq, decide_eq_false_iff_not, Bool.not_eq_true', Bool.not_eq_false', Bool.true_eq_false, Bool.false_eq_true, beq_iff_eq, bne_iff_ne, bne_eq_false_iff_eq, beq_eq_false_iff_ne, gt_iff_lt, ge_iff_le, Int.reduceEq, Int.reduceNe, Int.reduceLT, Int.reduceLE, ne_eq, not_true_eq_false, not_false_eq_true] at hb)) | ((first | refine awg_split (fun hb => ?_) (fun hb => ?_) | refine awsg_split (fun hb => ?_) (fun hb => ?_)) <;> have hb0 := hb <;> (try simp only [decide_eq_true_eq, decide_eq_false_iff_not, Bool.not_eq_true', Bool.not_eq_false', Bool.true_eq_false, Bool.false_eq_true, beq_iff_eq, bne_iff_ne, bne_eq_false_iff_eq, beq_eq_false_iff_ne, gt_iff_lt, ge_iff_le, Int.reduceEq, Int.reduceNe, Int.reduceLT, Int.reduceLE, ne_eq, not_true_eq_false, not_false_eq_true] at hb0) <;> (try simp only [beq_true, beq_false, Bool.not_eq_true', Bool.not_eq_false'] at hb) <;> (simp only [go_sem, Nat.reduceAdd, Nat.reduceSub, Nat.reduceMul, Nat.reduceLeDiff, Nat.reduceLT, Nat.reduceEqDiff, Int.reduceToNat, Int.reduceAdd, Int.reduceMul, Int.reduceSub, Int.reduceLT, Int.reduceLE, Int.reduceEq, Int.reduceNeg, Int.reduceBEq, Int.reduceBNe, ↓reduceIte, reduceCtorEq, hid, getSet hid, getOut hid, setOut hid, getSetL hid, setSetL hid, List.set_set, List.length_set, mc_len hs, mc_at hs, mc_st hs, mc_setat hs, mc_setst hs, mc_state, mc_vars, wa, ws, getNe hix hne, getNeL hix hne, List.getElem?_map, hj, Option.map_some, hjn, Int.toNat_natCast, List.length_map, hn', hb, hb0] <;> try simp (disch := omega) only [wrap_of])) | (refine And.intro ?_ ?_) | refine awp_skip ?_ | refine awp_ret ?_ | refine awp_exit ?_ | refine awp_label ?_ | refine awloop_step ?_ | fail)
  ((try simp only [go_sem, Nat.reduceAdd, Nat.reduceSub, Nat.reduceMul, Nat.reduceLeDiff, Nat.reduceLT, Nat.reduceEqDiff, Int.reduceToNat, Int.reduceAdd, Int.reduceMul, Int.reduceSub, Int.reduceLT, Int.reduceLE, Int.reduceEq, Int.reduceNeg, Int.reduceBEq, Int.reduceBNe, ↓reduceIte, reduceCtorEq]); (first | refine ⟨_, rfl, _, rfl, Fin.set0 1 ?_ ?_⟩ | refine ⟨_, rfl, _, rfl, Fin.set 1 ?_ ?_⟩))
  · exact mc_under hb0'
  · simp only [AV.low]
theorem step_input (k j : Nat) (rel : Int) (hk : k < 64) (hj : j < 4) (hat : at' + 1 < 100000 ∧ 0 ≤ at') (hst : st + 1 < 100000 ∧ 0 ≤ st) (H0 : List AObj) (hid : H0[id]? = some (.cells 54 (mc vs is n i0 i1 i2 i3 stk (k : Nat) at' st))) (hb0' : is < H0.length) (hv : isV (if j = 0 then i0 else if j = 1 then i1 else if j = 2 then i2 else i3)) :
    ARun Tryd.prog 29 [.p id 0, .agg [.i 3, .i (j : Nat), .i rel]] H0 (.ret (.i 0) (H0.set id (.cells 54 (mc vs is n i0 i1 i2 i3 (stk.set k (if j = 0 then i0 else if j = 1 then i1 else if j = 2 then i2 else i3)) (k + 1 : Nat) (at' + 1) (st + 1))))) := by
  have wa : IntKind.i64.wrap (at' + 1) = at' + 1 := wrap_of (by omega) (by omega)
  have ws : IntKind.i64.wrap (st + 1) = st + 1 := wrap_of (by omega) (by omega)
  have hj2 : (j : Int) < 4 := by omega
  have hj3 : 2 + (j + 1) ≤ 73 := by omega
  (refine ARun.intro Tryd.func29 rfl Tryd.call29 Tryd.ntmps29 Tryd.results29 ?_; simp only [List.length_cons, List.length_nil, List.length_map, Nat.reduceAdd, Nat.reduceSub, List.replicate_succ, List.replicate_zero, List.cons_append, List.nil_append])
  repeat' (first | refine awp_seq ?_ | refine awp_block ?_ | refine awp_scope ?_ | ((first | refine awp_region_k fun Kn Kp hn hp => ?_ | show AWP _ _ (Code.region 3 _ true) _ _ _; refine awp_drawn_k (id := 3) [] [] [.win [0], .win [0], .win [0], .win [0], .win [0], .win [0]] 0 rfl (by as_aux_lemma => kernel_rfl) fun Kn Kp hn hp => ?_ | show AWP _ _ (Code.region 8 _ true) _ _ _; refine awp_drawn_k (id := 8) [] [] [.win [0], .win [0], .win [0], .win [0], .win [0], .win [0], .win [0], .win [0], .win [0]] 0 rfl (by as_aux_lemma => kernel_rfl) fun Kn Kp hn hp => ?_ | show AWP _ _ (Code.region 10 _ true) _ _ _; refine awp_drawn_k (id := 10) [] [] [.win [0], .win [0], .win [0], .win [0], .win [0], .win [0], .win [0], .win [0]] 0 rfl (by as_aux_lemma => kernel_rfl) fun Kn Kp hn hp => ?_ | show AWP _ _ (Code.region 15 _ true) _ _ _; refine awp_drawn_k (id := 15) [1, 5] [] [.win [0], .eff 0, .win [0, 1], .win [0, 1], .win [0, 1], .eff 1, .win [2]] 2 rfl (by as_aux_lemma => kernel_rfl) fun Kn Kp hn hp => ?_ | show AWP _ _ (Code.region 5 _ true) _ _ _; refine awp_drawn_k (id := 5) [] [] [.win [0], .win [0], .win [0], .win [0], .win [0], .win [0]] 0 rfl (by as_aux_lemma => kernel_rfl) fun Kn Kp hn hp => ?_ | refine oge_intro (by assumption) ?_ | (show AWE _ _ _ _ _ _ _ _ _; first | refine awe_intro (push_run vs is n i0 i1 i2 i3 stk hs (at' + 1) (st + 1) id k (if j = 0 then i0 else if j = 1 then i1 else if j = 2 then i2 else i3) hk _ (getSetL hid _ _) (by simp only [List.length_append, List.length_set]; omega) hv) ?_) | (show AWSF _ _ _ _ _ _ _ _ _ _ _; first | refine awsf_intro (push_run vs is n i0 i1 i2 i3 stk hs (at' + 1) (st + 1) id k (if j = 0 then i0 else if j = 1 then i1 else if j = 2 then i2 else i3) hk _ (getSetL hid _ _) (by simp only [List.length_append, List.length_set]; omega) hv) (fun hrun => ?_)) | (show OGE _ _ _ _ _ _ _; first | refine oge_intro (push_run vs is n i0 i1 i2 i3 stk hs (at' + 1) (st + 1) id k (if j = 0 then i0 else if j = 1 then i1 else if j = 2 then i2 else i3) hk _ (getSetL hid _ _) (by simp only [List.length_append, List.length_set]; omega) hv) ?_) | (show AWSE _ _ _ _ _ _ _ _ _ _ _; first | refine awse_intro (push_run vs is n i0 i1 i2 i3 stk hs (at' + 1) (st + 1) id k (if j = 0 then i0 else if j = 1 then i1 else if j = 2 then i2 else i3) hk _ (getSetL hid _ _) (by simp only [List.length_append, List.length_set]; omega) hv) (fun hrun => ?_)) | (show PGE _ _ _ _ _; first | refine pge_intro (push_run vs is n i0 i1 i2 i3 stk hs (at' + 1) (st + 1) id k (if j = 0 then i0 else if j = 1 then i1 else if j = 2 then i2 else i3) hk _ (getSetL hid _ _) (by simp only [List.length_append, List.length_set]; omega) hv) (fun tm' => ?_))) <;> (simp only [go_sem, Nat.reduceAdd, Nat.reduceSub, Nat.reduceMul, Nat.reduceLeDiff, Nat.reduceLT, Nat.reduceEqDiff, Int.reduceToNat, Int.reduceAdd, Int.reduceMul, Int.reduceSub, Int.reduceLT, Int.reduceLE, Int.reduceEq, Int.reduceNeg, Int.reduceBEq, Int.reduceBNe, ↓reduceIte, reduceCtorEq, hid, getSet hid, getOut hid, setOut hid, getSetL hid, setSetL hid, List.set_set, List.length_set, mc_len hs, mc_at hs, mc_st hs, mc_setat hs, mc_setst hs, mc_state, mc_vars, wa, ws, hj2, hj3, Nat.mul_one, mc_in hj] <;> try simp (disch := omega) only [wrap_of])) | (refine hn _ _ ?_; clear hn hp Kn Kp) | (refine hp _ _ _ ?_; clear hn hp Kn Kp) | (refine awp_cond rfl (fun hb => ?_) (fun hb => ?_) <;> (try simp only [decide_eq_true_eq, decide_eq_false_iff_not, Bool.not_eq_true', Bool.not_eq_false', Bool.true_eq_false, Bool.false_eq_true, beq_iff_eq, bne_iff_ne, bne_eq_false_iff_eq, beq_eq_false_iff_ne, gt_iff_lt, ge_iff_le, Int.reduceEq, Int.reduceNe, Int.reduceLT, Int.reduceLE, ne_eq, not_true_eq_false, not_false_eq_true] at hb)) | ((first | refine awg_split (fun hb => ?_) (fun hb => ?_) | refine awsg_split (fun hb => ?_) (fun hb => ?_)) <;> have hb0 := hb <;> (try simp only [decide_eq_true_eq, decide_eq_false_iff_not, Bool.not_eq_true', Bool.not_eq_false', Bool.true_eq_false, Bool.false_eq_true, beq_iff_eq, bne_iff_ne, bne_eq_false_iff_eq, beq_eq_false_iff_ne, gt_iff_lt, ge_iff_le, Int.reduceEq, Int.reduceNe, Int.reduceLT, Int.reduceLE, ne_eq, not_true_eq_false, not_false_eq_true] at hb0) <;> (try simp only [beq_true, beq_false, Bool.not_eq_true', Bool.not_eq_false'] at hb) <;> (simp only [go_sem, Nat.reduceAdd, Nat.reduceSub, Nat.reduceMul, Nat.reduceLeDiff, Nat.reduceLT, Nat.reduceEqDiff, Int.reduceToNat, Int.reduceAdd, Int.reduceMul, Int.reduceSub, Int.reduceLT, Int.reduceLE, Int.reduceEq, Int.reduceNeg, Int.reduceBEq, Int.reduceBNe, ↓reduceIte, reduceCtorEq, hid, getSet hid, getOut hid, setOut hid, getSetL hid, setSetL hid, List.set_set, List.length_set, mc_len hs, mc_at hs, mc_st hs, mc_setat hs, mc_setst hs, mc_state, mc_vars, wa, ws, hj2, hj3, Nat.mul_one, mc_in hj, hb, hb0] <;> try simp (disch := omega) only [wrap_of])) | (refine And.intro ?_ ?_) | refine awp_skip ?_ | refine awp_ret ?_ | refine awp_exit ?_ | refine awp_label ?_ | refine awloop_step ?_ | fail)
  ((try simp only [go_sem, Nat.reduceAdd, Nat.reduceSub, Nat.reduceMul, Nat.reduceLeDiff, Nat.reduceLT, Nat.reduceEqDiff, Int.reduceToNat, Int.reduceAdd, Int.reduceMul, Int.reduceSub, Int.reduceLT, Int.reduceLE, Int.reduceEq, Int.reduceNeg, Int.reduceBEq, Int.reduceBNe, ↓reduceIte, reduceCtorEq]); (first | refine ⟨_, rfl, _, rfl, Fin.set0 1 ?_ ?_⟩ | refine ⟨_, rfl, _, rfl, Fin.set 1 ?_ ?_⟩))
  · exact mc_under hb0'
  · simp only [AV.low]
theorem store_bad (k j : Nat) (v w : Int) (vr : Vr) (hk : stk[k]? = some v) (hvj : vs[j]? = some vr) (H0 : List AObj) (hid : H0[id]? = some (.cells 54 (mc vs is n i0 i1 i2 i3 stk (k + 1 : Nat) at' st))) (hb0' : is < H0.length) (now : List Int) (hn' : now.length = n) (hix : H0[is]? = some (.arr 3 1 (now.map fun v => [AV.i v]))) (hne : id ≠ is) (hj : now[j]? = some w) (hv : ¬ (vr.low ≤ v ∧ v ≤ vr.high)) :
    ARun Tryd.prog 38 [.p id 0, .i (j : Nat)] H0 (.ret (.i 15) (H0.set id (.cells 54 (mc vs is n i0 i1 i2 i3 stk (k : Nat) at' st)))) := by
  have hjn : (j : Int) < n := by have := (List.getElem?_eq_some_iff.1 hj).1; omega
  have hjv : (j : Int) < vs.length := by have := (List.getElem?_eq_some_iff.1 hvj).1; omega
  have hin := fun H0 => in_run vr.low vr.high v H0
  have hvj' : (vs.map encV)[j]? = some (cV vr) := by rw [List.getElem?_map, hvj]; rfl
  have hj' : (now.map fun v => [AV.i v])[j]? = some [AV.i w] := by rw [List.getElem?_map, hj]; rfl
  have hd : (decide (vr.low ≤ v) && decide (v ≤ vr.high)) = false := by simp; omega
  simp only [hd] at hin
  (refine ARun.intro Tryd.func38 rfl Tryd.call38 Tryd.ntmps38 Tryd.results38 ?_; simp only [List.length_cons, List.length_nil, List.length_map, Nat.reduceAdd, Nat.reduceSub, List.replicate_succ, List.replicate_zero, List.cons_append, List.nil_append])
  repeat' (first | refine awp_seq ?_ | refine awp_block ?_ | refine awp_scope ?_ | ((first | refine awp_region_k fun Kn Kp hn hp => ?_ | show AWP _ _ (Code.region 2 _ true) _ _ _; refine awp_drawn_k (id := 2) [17, 18] [] [.win [0, 1], .win [0, 1], .win [0, 1], .win [0, 1], .win [0, 1], .win [0, 1], .win [0, 1], .win [0, 1], .win [0, 1], .win [0, 1], .win [0, 1], .win [0, 1], .win [0, 1], .win [0, 1], .win [0, 1], .win [0, 1], .win [0], .eff 0, .eff 1, .win [2]] 2 rfl (by as_aux_lemma => kernel_rfl) fun Kn Kp hn hp => ?_ | refine oge_intro (by assumption) ?_ | (show AWE _ _ _ _ _ _ _ _ _; first | refine awe_intro (pop_run vs is n i0 i1 i2 i3 stk hs at' st id k v hk _ hid hb0') ?_) | (show AWSF _ _ _ _ _ _ _ _ _ _ _; first | refine awsf_intro (pop_run vs is n i0 i1 i2 i3 stk hs at' st id k v hk _ hid hb0') (fun hrun => ?_)) | (show OGE _ _ _ _ _ _ _; first | refine oge_intro (pop_run vs is n i0 i1 i2 i3 stk hs at' st id k v hk _ hid hb0') ?_) | (show AWSE _ _ _ _ _ _ _ _ _ _ _; first | refine awse_intro (pop_run vs is n i0 i1 i2 i3 stk hs at' st id k v hk _ hid hb0') (fun hrun => ?_)) | (show PGE _ _ _ _ _; first | refine pge_intro (pop_run vs is n i0 i1 i2 i3 stk hs at' st id k v hk _ hid hb0') (fun tm' => ?_))) <;> (simp only [go_sem, Nat.reduceAdd, Nat.reduceSub, Nat.reduceMul, Nat.reduceLeDiff, Nat.reduceLT, Nat.reduceEqDiff, Int.reduceToNat, Int.reduceAdd, Int.reduceMul, Int.reduceSub, Int.reduceLT, Int.reduceLE, Int.reduceEq, Int.reduceNeg, Int.reduceBEq, Int.reduceBNe, ↓reduceIte, reduceCtorEq, hid, getSet hid, getOut hid, setOut hid, getSetL hid, setSetL hid, List.set_set, List.length_set, getNe hix hne, getNeL hix hne, setNeL hix hne, mc_state, mc_vars, hj', hvj', hj, hvj, encV_eq, hjn, hjv, Option.map_some, Int.toNat_natCast, List.length_map, hn', row_set] <;> try simp (disch := omega) only [wrap_of])) | (refine hn _ _ ?_; clear hn hp Kn Kp) | (refine hp _ _ _ ?_; clear hn hp Kn Kp) | (refine awp_cond rfl (fun hb => ?_) (fun hb => ?_) <;> (try simp only [decide_eq_true_eq, decide_eq_false_iff_not, Bool.not_eq_true', Bool.not_eq_false', Bool.true_eq_false, Bool.false_eq_true, beq_iff_eq, bne_iff_ne, bne_eq_false_iff_eq, beq_eq_false_iff_ne, gt_iff_lt, ge_iff_le, Int.reduceEq, Int.reduceNe, Int.reduceLT, Int.reduceLE, ne_eq, not_true_eq_false, not_false_eq_true] at hb)) | ((first | refine awg_split (fun hb => ?_) (fun hb => ?_) | refine awsg_split (fun hb => ?_) (fun hb => ?_)) <;> have hb0 := hb <;> (try simp only [decide_eq_true_eq, decide_eq_false_iff_not, Bool.not_eq_true', Bool.not_eq_false', Bool.true_eq_false, Bool.false_eq_true, beq_iff_eq, bne_iff_ne, bne_eq_false_iff_eq, beq_eq_false_iff_ne, gt_iff_lt, ge_iff_le, Int.reduceEq, Int.reduceNe, Int.reduceLT, Int.reduceLE, ne_eq, not_true_eq_false, not_false_eq_true] at hb0) <;> (try simp only [beq_true, beq_false, Bool.not_eq_true', Bool.not_eq_false'] at hb) <;> (simp only [go_sem, Nat.reduceAdd, Nat.reduceSub, Nat.reduceMul, Nat.reduceLeDiff, Nat.reduceLT, Nat.reduceEqDiff, Int.reduceToNat, Int.reduceAdd, Int.reduceMul, Int.reduceSub, Int.reduceLT, Int.reduceLE, Int.reduceEq, Int.reduceNeg, Int.reduceBEq, Int.reduceBNe, ↓reduceIte, reduceCtorEq, hid, getSet hid, getOut hid, setOut hid, getSetL hid, setSetL hid, List.set_set, List.length_set, getNe hix hne, getNeL hix hne, setNeL hix hne, mc_state, mc_vars, hj', hvj', hj, hvj, encV_eq, hjn, hjv, Option.map_some, Int.toNat_natCast, List.length_map, hn', row_set, hb, hb0] <;> try simp (disch := omega) only [wrap_of])) | (refine And.intro ?_ ?_) | ((show AWE _ _ _ _ _ _ _ _ _; refine awe_intro (ARun.lendA ( hin [])) ?_); (simp only [go_sem, Nat.reduceAdd, Nat.reduceSub, Nat.reduceMul, Nat.reduceLeDiff, Nat.reduceLT, Nat.reduceEqDiff, Int.reduceToNat, Int.reduceAdd, Int.reduceMul, Int.reduceSub, Int.reduceLT, Int.reduceLE, Int.reduceEq, Int.reduceNeg, Int.reduceBEq, Int.reduceBNe, ↓reduceIte, reduceCtorEq, hid, getSet hid, getOut hid, setOut hid, getSetL hid, setSetL hid, List.set_set, List.length_set, getNe hix hne, getNeL hix hne, setNeL hix hne, mc_state, mc_vars, hj', hvj', hj, hvj, encV_eq, hjn, hjv, Option.map_some, Int.toNat_natCast, List.length_map, hn', row_set] <;> try simp (disch := omega) only [wrap_of])) | ((show AWSF _ _ _ _ _ _ _ _ _ _ _; refine awsf_intro (ARun.lendA ( hin [])) (fun hrun => ?_)); (simp only [go_sem, Nat.reduceAdd, Nat.reduceSub, Nat.reduceMul, Nat.reduceLeDiff, Nat.reduceLT, Nat.reduceEqDiff, Int.reduceToNat, Int.reduceAdd, Int.reduceMul, Int.reduceSub, Int.reduceLT, Int.reduceLE, Int.reduceEq, Int.reduceNeg, Int.reduceBEq, Int.reduceBNe, ↓reduceIte, reduceCtorEq, hid, getSet hid, getOut hid, setOut hid, getSetL hid, setSetL hid, List.set_set, List.length_set, getNe hix hne, getNeL hix hne, setNeL hix hne, mc_state, mc_vars, hj', hvj', hj, hvj, encV_eq, hjn, hjv, Option.map_some, Int.toNat_natCast, List.length_map, hn', row_set] <;> try simp (disch := omega) only [wrap_of])) | ((show OGE _ _ _ _ _ _ _; refine oge_intro (ARun.lendA ( hin [])) ?_); (simp only [go_sem, Nat.reduceAdd, Nat.reduceSub, Nat.reduceMul, Nat.reduceLeDiff, Nat.reduceLT, Nat.reduceEqDiff, Int.reduceToNat, Int.reduceAdd, Int.reduceMul, Int.reduceSub, Int.reduceLT, Int.reduceLE, Int.reduceEq, Int.reduceNeg, Int.reduceBEq, Int.reduceBNe, ↓reduceIte, reduceCtorEq, hid, getSet hid, getOut hid, setOut hid, getSetL hid, setSetL hid, List.set_set, List.length_set, getNe hix hne, getNeL hix hne, setNeL hix hne, mc_state, mc_vars, hj', hvj', hj, hvj, encV_eq, hjn, hjv, Option.map_some, Int.toNat_natCast, List.length_map, hn', row_set] <;> try simp (disch := omega) only [wrap_of])) | ((show AWSE _ _ _ _ _ _ _ _ _ _ _; refine awse_intro (ARun.lendA ( hin [])) (fun hrun => ?_)); (simp only [go_sem, Nat.reduceAdd, Nat.reduceSub, Nat.reduceMul, Nat.reduceLeDiff, Nat.reduceLT, Nat.reduceEqDiff, Int.reduceToNat, Int.reduceAdd, Int.reduceMul, Int.reduceSub, Int.reduceLT, Int.reduceLE, Int.reduceEq, Int.reduceNeg, Int.reduceBEq, Int.reduceBNe, ↓reduceIte, reduceCtorEq, hid, getSet hid, getOut hid, setOut hid, getSetL hid, setSetL hid, List.set_set, List.length_set, getNe hix hne, getNeL hix hne, setNeL hix hne, mc_state, mc_vars, hj', hvj', hj, hvj, encV_eq, hjn, hjv, Option.map_some, Int.toNat_natCast, List.length_map, hn', row_set] <;> try simp (disch := omega) only [wrap_of])) | refine awp_skip ?_ | refine awp_ret ?_ | refine awp_exit ?_ | refine awp_label ?_ | refine awloop_step ?_ | (simp only [go_sem, Nat.reduceAdd, Nat.reduceSub, Nat.reduceMul, Nat.reduceLeDiff, Nat.reduceLT, Nat.reduceEqDiff, Int.reduceToNat, Int.reduceAdd, Int.reduceMul, Int.reduceSub, Int.reduceLT, Int.reduceLE, Int.reduceEq, Int.reduceNeg, Int.reduceBEq, Int.reduceBNe, ↓reduceIte, reduceCtorEq, hid, getSet hid, getOut hid, setOut hid, getSetL hid, setSetL hid, List.set_set, List.length_set, getNe hix hne, getNeL hix hne, setNeL hix hne, mc_state, mc_vars, hj', hvj', hj, hvj, encV_eq, hjn, hjv, Option.map_some, Int.toNat_natCast, List.length_map, hn', row_set]) | fail)
  ((try simp only [go_sem, Nat.reduceAdd, Nat.reduceSub, Nat.reduceMul, Nat.reduceLeDiff, Nat.reduceLT, Nat.reduceEqDiff, Int.reduceToNat, Int.reduceAdd, Int.reduceMul, Int.reduceSub, Int.reduceLT, Int.reduceLE, Int.reduceEq, Int.reduceNeg, Int.reduceBEq, Int.reduceBNe, ↓reduceIte, reduceCtorEq]); (first | refine ⟨_, rfl, _, rfl, Fin.set0 1 ?_ ?_⟩ | refine ⟨_, rfl, _, rfl, Fin.set 1 ?_ ?_⟩))
  · exact mc_under hb0'
  · simp only [AV.low]
theorem store_ok (k j : Nat) (v w : Int) (vr : Vr) (hk : stk[k]? = some v) (hvj : vs[j]? = some vr) (H0 : List AObj) (hid : H0[id]? = some (.cells 54 (mc vs is n i0 i1 i2 i3 stk (k + 1 : Nat) at' st))) (hb0' : is < H0.length) (now : List Int) (hn' : now.length = n) (hix : H0[is]? = some (.arr 3 1 (now.map fun v => [AV.i v]))) (hne : id ≠ is) (hj : now[j]? = some w) (hv : (vr.low ≤ v ∧ v ≤ vr.high)) :
    ARun Tryd.prog 38 [.p id 0, .i (j : Nat)] H0 (.ret (.i 0) ((H0.set id (.cells 54 (mc vs is n i0 i1 i2 i3 stk (k : Nat) at' st))).set is (.arr 3 1 ((now.set j v).map fun v => [AV.i v])))) := by
  have hjn : (j : Int) < n := by have := (List.getElem?_eq_some_iff.1 hj).1; omega
  have hjv : (j : Int) < vs.length := by have := (List.getElem?_eq_some_iff.1 hvj).1; omega
  have hin := fun H0 => in_run vr.low vr.high v H0
  have hvj' : (vs.map encV)[j]? = some (cV vr) := by rw [List.getElem?_map, hvj]; rfl
  have hj' : (now.map fun v => [AV.i v])[j]? = some [AV.i w] := by rw [List.getElem?_map, hj]; rfl
  have hd : (decide (vr.low ≤ v) && decide (v ≤ vr.high)) = true := by simp [hv]
  simp only [hd] at hin
  (refine ARun.intro Tryd.func38 rfl Tryd.call38 Tryd.ntmps38 Tryd.results38 ?_; simp only [List.length_cons, List.length_nil, List.length_map, Nat.reduceAdd, Nat.reduceSub, List.replicate_succ, List.replicate_zero, List.cons_append, List.nil_append])
  repeat' (first | refine awp_seq ?_ | refine awp_block ?_ | refine awp_scope ?_ | ((first | refine awp_region_k fun Kn Kp hn hp => ?_ | show AWP _ _ (Code.region 2 _ true) _ _ _; refine awp_drawn_k (id := 2) [17, 18] [] [.win [0, 1], .win [0, 1], .win [0, 1], .win [0, 1], .win [0, 1], .win [0, 1], .win [0, 1], .win [0, 1], .win [0, 1], .win [0, 1], .win [0, 1], .win [0, 1], .win [0, 1], .win [0, 1], .win [0, 1], .win [0, 1], .win [0], .eff 0, .eff 1, .win [2]] 2 rfl (by as_aux_lemma => kernel_rfl) fun Kn Kp hn hp => ?_ | refine oge_intro (by assumption) ?_ | (show AWE _ _ _ _ _ _ _ _ _; first | refine awe_intro (pop_run vs is n i0 i1 i2 i3 stk hs at' st id k v hk _ hid hb0') ?_) | (show AWSF _ _ _ _ _ _ _ _ _ _ _; first | refine awsf_intro (pop_run vs is n i0 i1 i2 i3 stk hs at' st id k v hk _ hid hb0') (fun hrun => ?_)) | (show OGE _ _ _ _ _ _ _; first | refine oge_intro (pop_run vs is n i0 i1 i2 i3 stk hs at' st id k v hk _ hid hb0') ?_) | (show AWSE _ _ _ _ _ _ _ _ _ _ _; first | refine awse_intro (pop_run vs is n i0 i1 i2 i3 stk hs at' st id k v hk _ hid hb0') (fun hrun => ?_)) | (show PGE _ _ _ _ _; first | refine pge_intro (pop_run vs is n i0 i1 i2 i3 stk hs at' st id k v hk _ hid hb0') (fun tm' => ?_))) <;> (simp only [go_sem, Nat.reduceAdd, Nat.reduceSub, Nat.reduceMul, Nat.reduceLeDiff, Nat.reduceLT, Nat.reduceEqDiff, Int.reduceToNat, Int.reduceAdd, Int.reduceMul, Int.reduceSub, Int.reduceLT, Int.reduceLE, Int.reduceEq, Int.reduceNeg, Int.reduceBEq, Int.reduceBNe, ↓reduceIte, reduceCtorEq, hid, getSet hid, getOut hid, setOut hid, getSetL hid, setSetL hid, List.set_set, List.length_set, getNe hix hne, getNeL hix hne, setNeL hix hne, mc_state, mc_vars, hj', hvj', hj, hvj, encV_eq, hjn, hjv, Option.map_some, Int.toNat_natCast, List.length_map, hn', row_set] <;> try simp (disch := omega) only [wrap_of])) | (refine hn _ _ ?_; clear hn hp Kn Kp) | (refine hp _ _ _ ?_; clear hn hp Kn Kp) | (refine awp_cond rfl (fun hb => ?_) (fun hb => ?_) <;> (try simp only [decide_eq_true_eq, decide_eq_false_iff_not, Bool.not_eq_true', Bool.not_eq_false', Bool.true_eq_false, Bool.false_eq_true, beq_iff_eq, bne_iff_ne, bne_eq_false_iff_eq, beq_eq_false_iff_ne, gt_iff_lt, ge_iff_le, Int.reduceEq, Int.reduceNe, Int.reduceLT, Int.reduceLE, ne_eq, not_true_eq_false, not_false_eq_true] at hb)) | ((first | refine awg_split (fun hb => ?_) (fun hb => ?_) | refine awsg_split (fun hb => ?_) (fun hb => ?_)) <;> have hb0 := hb <;> (try simp only [decide_eq_true_eq, decide_eq_false_iff_not, Bool.not_eq_true', Bool.not_eq_false', Bool.true_eq_false, Bool.false_eq_true, beq_iff_eq, bne_iff_ne, bne_eq_false_iff_eq, beq_eq_false_iff_ne, gt_iff_lt, ge_iff_le, Int.reduceEq, Int.reduceNe, Int.reduceLT, Int.reduceLE, ne_eq, not_true_eq_false, not_false_eq_true] at hb0) <;> (try simp only [beq_true, beq_false, Bool.not_eq_true', Bool.not_eq_false'] at hb) <;> (simp only [go_sem, Nat.reduceAdd, Nat.reduceSub, Nat.reduceMul, Nat.reduceLeDiff, Nat.reduceLT, Nat.reduceEqDiff, Int.reduceToNat, Int.reduceAdd, Int.reduceMul, Int.reduceSub, Int.reduceLT, Int.reduceLE, Int.reduceEq, Int.reduceNeg, Int.reduceBEq, Int.reduceBNe, ↓reduceIte, reduceCtorEq, hid, getSet hid, getOut hid, setOut hid, getSetL hid, setSetL hid, List.set_set, List.length_set, getNe hix hne, getNeL hix hne, setNeL hix hne, mc_state, mc_vars, hj', hvj', hj, hvj, encV_eq, hjn, hjv, Option.map_some, Int.toNat_natCast, List.length_map, hn', row_set, hb, hb0] <;> try simp (disch := omega) only [wrap_of])) | (refine And.intro ?_ ?_) | ((show AWE _ _ _ _ _ _ _ _ _; refine awe_intro (ARun.lendA ( hin [])) ?_); (simp only [go_sem, Nat.reduceAdd, Nat.reduceSub, Nat.reduceMul, Nat.reduceLeDiff, Nat.reduceLT, Nat.reduceEqDiff, Int.reduceToNat, Int.reduceAdd, Int.reduceMul, Int.reduceSub, Int.reduceLT, Int.reduceLE, Int.reduceEq, Int.reduceNeg, Int.reduceBEq, Int.reduceBNe, ↓reduceIte, reduceCtorEq, hid, getSet hid, getOut hid, setOut hid, getSetL hid, setSetL hid, List.set_set, List.length_set, getNe hix hne, getNeL hix hne, setNeL hix hne, mc_state, mc_vars, hj', hvj', hj, hvj, encV_eq, hjn, hjv, Option.map_some, Int.toNat_natCast, List.length_map, hn', row_set] <;> try simp (disch := omega) only [wrap_of])) | ((show AWSF _ _ _ _ _ _ _ _ _ _ _; refine awsf_intro (ARun.lendA ( hin [])) (fun hrun => ?_)); (simp only [go_sem, Nat.reduceAdd, Nat.reduceSub, Nat.reduceMul, Nat.reduceLeDiff, Nat.reduceLT, Nat.reduceEqDiff, Int.reduceToNat, Int.reduceAdd, Int.reduceMul, Int.reduceSub, Int.reduceLT, Int.reduceLE, Int.reduceEq, Int.reduceNeg, Int.reduceBEq, Int.reduceBNe, ↓reduceIte, reduceCtorEq, hid, getSet hid, getOut hid, setOut hid, getSetL hid, setSetL hid, List.set_set, List.length_set, getNe hix hne, getNeL hix hne, setNeL hix hne, mc_state, mc_vars, hj', hvj', hj, hvj, encV_eq, hjn, hjv, Option.map_some, Int.toNat_natCast, List.length_map, hn', row_set] <;> try simp (disch := omega) only [wrap_of])) | ((show OGE _ _ _ _ _ _ _; refine oge_intro (ARun.lendA ( hin [])) ?_); (simp only [go_sem, Nat.reduceAdd, Nat.reduceSub, Nat.reduceMul, Nat.reduceLeDiff, Nat.reduceLT, Nat.reduceEqDiff, Int.reduceToNat, Int.reduceAdd, Int.reduceMul, Int.reduceSub, Int.reduceLT, Int.reduceLE, Int.reduceEq, Int.reduceNeg, Int.reduceBEq, Int.reduceBNe, ↓reduceIte, reduceCtorEq, hid, getSet hid, getOut hid, setOut hid, getSetL hid, setSetL hid, List.set_set, List.length_set, getNe hix hne, getNeL hix hne, setNeL hix hne, mc_state, mc_vars, hj', hvj', hj, hvj, encV_eq, hjn, hjv, Option.map_some, Int.toNat_natCast, List.length_map, hn', row_set] <;> try simp (disch := omega) only [wrap_of])) | ((show AWSE _ _ _ _ _ _ _ _ _ _ _; refine awse_intro (ARun.lendA ( hin [])) (fun hrun => ?_)); (simp only [go_sem, Nat.reduceAdd, Nat.reduceSub, Nat.reduceMul, Nat.reduceLeDiff, Nat.reduceLT, Nat.reduceEqDiff, Int.reduceToNat, Int.reduceAdd, Int.reduceMul, Int.reduceSub, Int.reduceLT, Int.reduceLE, Int.reduceEq, Int.reduceNeg, Int.reduceBEq, Int.reduceBNe, ↓reduceIte, reduceCtorEq, hid, getSet hid, getOut hid, setOut hid, getSetL hid, setSetL hid, List.set_set, List.length_set, getNe hix hne, getNeL hix hne, setNeL hix hne, mc_state, mc_vars, hj', hvj', hj, hvj, encV_eq, hjn, hjv, Option.map_some, Int.toNat_natCast, List.length_map, hn', row_set] <;> try simp (disch := omega) only [wrap_of])) | refine awp_skip ?_ | refine awp_ret ?_ | refine awp_exit ?_ | refine awp_label ?_ | refine awloop_step ?_ | (simp only [go_sem, Nat.reduceAdd, Nat.reduceSub, Nat.reduceMul, Nat.reduceLeDiff, Nat.reduceLT, Nat.reduceEqDiff, Int.reduceToNat, Int.reduceAdd, Int.reduceMul, Int.reduceSub, Int.reduceLT, Int.reduceLE, Int.reduceEq, Int.reduceNeg, Int.reduceBEq, Int.reduceBNe, ↓reduceIte, reduceCtorEq, hid, getSet hid, getOut hid, setOut hid, getSetL hid, setSetL hid, List.set_set, List.length_set, getNe hix hne, getNeL hix hne, setNeL hix hne, mc_state, mc_vars, hj', hvj', hj, hvj, encV_eq, hjn, hjv, Option.map_some, Int.toNat_natCast, List.length_map, hn', row_set]) | fail)
  ((try simp only [go_sem, Nat.reduceAdd, Nat.reduceSub, Nat.reduceMul, Nat.reduceLeDiff, Nat.reduceLT, Nat.reduceEqDiff, Int.reduceToNat, Int.reduceAdd, Int.reduceMul, Int.reduceSub, Int.reduceLT, Int.reduceLE, Int.reduceEq, Int.reduceNeg, Int.reduceBEq, Int.reduceBNe, ↓reduceIte, reduceCtorEq]); (first | refine ⟨_, rfl, _, rfl, Fin.set20 1 ?_ ?_ ?_⟩ | refine ⟨_, rfl, _, rfl, Fin.set2 1 ?_ ?_ ?_⟩))
  · exact mc_under hb0'
  · exact row_under
  · simp only [AV.low]
end
end Go.Proofs.YtimmncjdknlegaaDoor.Y

set_option maxHeartbeats 8000000
set_option maxRecDepth 20000
set_option linter.unusedVariables false
set_option linter.unusedSimpArgs false
set_option linter.unusedSectionVars false

namespace Go.Proofs.YtimmncjdknlegaaDoor.Y
open Go.Proofs.YtimmncjdknlegaaDoor.AL Go.Proofs Go
theorem dr29_3_X10e : Drawn Tryd.prog 3 (regOps 3 ((Tryd.f29.body).getD .skip)) [] [] [.win [0], .win [0], .win [0], .win [0], .win [0], .win [0]] 0 [] := ⟨rfl, by as_aux_lemma => kernel_rfl⟩
theorem dr29_8_X10e : Drawn Tryd.prog 8 (regOps 8 ((Tryd.f29.body).getD .skip)) [] [] [.win [0], .win [0], .win [0], .win [0], .win [0], .win [0], .win [0], .win [0], .win [0]] 0 [] := ⟨rfl, by as_aux_lemma => kernel_rfl⟩
theorem dr29_10_X10e : Drawn Tryd.prog 10 (regOps 10 ((Tryd.f29.body).getD .skip)) [] [] [.win [0], .win [0], .win [0], .win [0], .win [0], .win [0], .win [0], .win [0]] 0 [] := ⟨rfl, by as_aux_lemma => kernel_rfl⟩
theorem dr29_15_X10e : Drawn Tryd.prog 15 (regOps 15 ((Tryd.f29.body).getD .skip)) [1, 5] [] [.win [0], .eff 0, .win [0, 1], .win [0, 1], .win [0, 1], .eff 1, .win [2]] 2 [] := ⟨rfl, by as_aux_lemma => kernel_rfl⟩
theorem dr29_5_X10e : Drawn Tryd.prog 5 (regOps 5 ((Tryd.f29.body).getD .skip)) [] [] [.win [0], .win [0], .win [0], .win [0], .win [0], .win [0]] 0 [] := ⟨rfl, by as_aux_lemma => kernel_rfl⟩

section
variable (vs : List Vr) (is n : Nat) (i0 i1 i2 i3 : Int) (stk : List Int) (hs : stk.length = 64) (at' st : Int) (id : Nat)
include hs
theorem step_store_bad (k j : Nat) (v w rel : Int) (vr : Vr) (hk : stk[k]? = some v) (hvj : vs[j]? = some vr) (hat : at' + 1 < 100000 ∧ 0 ≤ at') (hst : st + 1 < 100000 ∧ 0 ≤ st) (H0 : List AObj) (hid : H0[id]? = some (.cells 54 (mc vs is n i0 i1 i2 i3 stk (k + 1 : Nat) at' st))) (hb0' : is < H0.length) (now : List Int) (hn' : now.length = n) (hix : H0[is]? = some (.arr 3 1 (now.map fun v => [AV.i v]))) (hne : id ≠ is) (hj : now[j]? = some w) (hv : ¬ (vr.low ≤ v ∧ v ≤ vr.high)) :
    ARun Tryd.prog 29 [.p id 0, .agg [.i 11, .i (j : Nat), .i rel]] H0 (.ret (.i 15) (H0.set id (.cells 54 (mc vs is n i0 i1 i2 i3 stk (k : Nat) (at' + 1) (st + 1))))) := by
  have wa : IntKind.i64.wrap (at' + 1) = at' + 1 := wrap_of (by omega) (by omega)
  have ws : IntKind.i64.wrap (st + 1) = st + 1 := wrap_of (by omega) (by omega)
  (refine ARun.intro Tryd.func29 rfl Tryd.call29 Tryd.ntmps29 Tryd.results29 ?_; simp only [List.length_cons, List.length_nil, List.length_map, Nat.reduceAdd, Nat.reduceSub, List.replicate_succ, List.replicate_zero, List.cons_append, List.nil_append])
  repeat' (first | refine awp_seq ?_ | refine awp_block ?_ | refine awp_scope ?_ | ((first | refine awp_region_k fun Kn Kp hn hp => ?_ | show AWP _ _ (Code.region 3 _ true) _ _ _; refine awp_drawn_k (id := 3) [] [] [.win [0], .win [0], .win [0], .win [0], .win [0], .win [0]] 0 rfl (by as_aux_lemma => kernel_rfl) fun Kn Kp hn hp => ?_ | show AWP _ _ (Code.region 8 _ true) _ _ _; refine awp_drawn_k (id := 8) [] [] [.win [0], .win [0], .win [0], .win [0], .win [0], .win [0], .win [0], .win [0], .win [0]] 0 rfl (by as_aux_lemma => kernel_rfl) fun Kn Kp hn hp => ?_ | show AWP _ _ (Code.region 10 _ true) _ _ _; refine awp_drawn_k (id := 10) [] [] [.win [0], .win [0], .win [0], .win [0], .win [0], .win [0], .win [0], .win [0]] 0 rfl (by as_aux_lemma => kernel_rfl) fun Kn Kp hn hp => ?_ | show AWP _ _ (Code.region 15 _ true) _ _ _; refine awp_drawn_k (id := 15) [1, 5] [] [.win [0], .eff 0, .win [0, 1], .win [0, 1], .win [0, 1], .eff 1, .win [2]] 2 rfl (by as_aux_lemma => kernel_rfl) fun Kn Kp hn hp => ?_ | show AWP _ _ (Code.region 5 _ true) _ _ _; refine awp_drawn_k (id := 5) [] [] [.win [0], .win [0], .win [0], .win [0], .win [0], .win [0]] 0 rfl (by as_aux_lemma => kernel_rfl) fun Kn Kp hn hp => ?_ | refine oge_intro (by assumption) ?_ | (show AWE _ _ _ _ _ _ _ _ _; first | refine awe_intro (store_bad vs is n i0 i1 i2 i3 stk hs (at' + 1) (st + 1) id k j v w vr hk hvj _ (getSetL hid _ _) (by simp only [List.length_append, List.length_set]; omega) now hn' (getNeL hix hne _ _) hne hj hv) ?_) | (show AWSF _ _ _ _ _ _ _ _ _ _ _; first | refine awsf_intro (store_bad vs is n i0 i1 i2 i3 stk hs (at' + 1) (st + 1) id k j v w vr hk hvj _ (getSetL hid _ _) (by simp only [List.length_append, List.length_set]; omega) now hn' (getNeL hix hne _ _) hne hj hv) (fun hrun => ?_)) | (show OGE _ _ _ _ _ _ _; first | refine oge_intro (store_bad vs is n i0 i1 i2 i3 stk hs (at' + 1) (st + 1) id k j v w vr hk hvj _ (getSetL hid _ _) (by simp only [List.length_append, List.length_set]; omega) now hn' (getNeL hix hne _ _) hne hj hv) ?_) | (show AWSE _ _ _ _ _ _ _ _ _ _ _; first | refine awse_intro (store_bad vs is n i0 i1 i2 i3 stk hs (at' + 1) (st + 1) id k j v w vr hk hvj _ (getSetL hid _ _) (by simp only [List.length_append, List.length_set]; omega) now hn' (getNeL hix hne _ _) hne hj hv) (fun hrun => ?_)) | (show PGE _ _ _ _ _; first | refine pge_intro (store_bad vs is n i0 i1 i2 i3 stk hs (at' + 1) (st + 1) id k j v w vr hk hvj _ (getSetL hid _ _) (by simp only [List.length_append, List.length_set]; omega) now hn' (getNeL hix hne _ _) hne hj hv) (fun tm' => ?_))) <;> (simp only [go_sem, Nat.reduceAdd, Nat.reduceSub, Nat.reduceMul, Nat.reduceLeDiff, Nat.reduceLT, Nat.reduceEqDiff, Int.reduceToNat, Int.reduceAdd, Int.reduceMul, Int.reduceSub, Int.reduceLT, Int.reduceLE, Int.reduceEq, Int.reduceNeg, Int.reduceBEq, Int.reduceBNe, ↓reduceIte, reduceCtorEq, hid, getSet hid, getOut hid, setOut hid, getSetL hid, setSetL hid, List.set_set, List.length_set, mc_len hs, mc_at hs, mc_st hs, mc_setat hs, mc_setst hs, mc_state, mc_vars, wa, ws] <;> try simp (disch := omega) only [wrap_of])) | (refine hn _ _ ?_; clear hn hp Kn Kp) | (refine hp _ _ _ ?_; clear hn hp Kn Kp) | (refine awp_cond rfl (fun hb => ?_) (fun hb => ?_) <;> (try simp only [decide_eq_true_eq, decide_eq_false_iff_not, Bool.not_eq_true', Bool.not_eq_false', Bool.true_eq_false, Bool.false_eq_true, beq_iff_eq, bne_iff_ne, bne_eq_false_iff_eq, beq_eq_false_iff_ne, gt_iff_lt, ge_iff_le, Int.reduceEq, Int.reduceNe, Int.reduceLT, Int.reduceLE, ne_eq, not_true_eq_false, not_false_eq_true] at hb)) | ((first | refine awg_split (fun hb => ?_) (fun hb => ?_) | refine awsg_split (fun hb => ?_) (fun hb => ?_)) <;> have hb0 := hb <;> (try simp only [decide_eq_true_eq, decide_eq_false_iff_not, Bool.not_eq_true', Bool.not_eq_false', Bool.true_eq_false, Bool.false_eq_true, beq_iff_eq, bne_iff_ne, bne_eq_false_iff_eq, beq_eq_false_iff_ne, gt_iff_lt, ge_iff_le, Int.reduceEq, Int.reduceNe, Int.reduceLT, Int.reduceLE, ne_eq, not_true_eq_false, not_false_eq_true] at hb0) <;> (try simp only [beq_true, beq_false, Bool.not_eq_true', Bool.not_eq_false'] at hb) <;> (simp only [go_sem, Nat.reduceAdd, Nat.reduceSub, Nat.reduceMul, Nat.reduceLeDiff, Nat.reduceLT, Nat.reduceEqDiff, Int.reduceToNat, Int.reduceAdd, Int.reduceMul, Int.reduceSub, Int.reduceLT, Int.reduceLE, Int.reduceEq, Int.reduceNeg, Int.reduceBEq, Int.reduceBNe, ↓reduceIte, reduceCtorEq, hid, getSet hid, getOut hid, setOut hid, getSetL hid, setSetL hid, List.set_set, List.length_set, mc_len hs, mc_at hs, mc_st hs, mc_setat hs, mc_setst hs, mc_state, mc_vars, wa, ws, hb, hb0] <;> try simp (disch := omega) only [wrap_of])) | (refine And.intro ?_ ?_) | refine awp_skip ?_ | refine awp_ret ?_ | refine awp_exit ?_ | refine awp_label ?_ | refine awloop_step ?_ | fail)
  ((try simp only [go_sem, Nat.reduceAdd, Nat.reduceSub, Nat.reduceMul, Nat.reduceLeDiff, Nat.reduceLT, Nat.reduceEqDiff, Int.reduceToNat, Int.reduceAdd, Int.reduceMul, Int.reduceSub, Int.reduceLT, Int.reduceLE, Int.reduceEq, Int.reduceNeg, Int.reduceBEq, Int.reduceBNe, ↓reduceIte, reduceCtorEq]); (first | refine ⟨_, rfl, _, rfl, Fin.set0 1 ?_ ?_⟩ | refine ⟨_, rfl, _, rfl, Fin.set 1 ?_ ?_⟩))
  · exact mc_under hb0'
  · simp only [AV.low]
theorem step_store_ok (k j : Nat) (v w rel : Int) (vr : Vr) (hk : stk[k]? = some v) (hvj : vs[j]? = some vr) (hat : at' + 1 < 100000 ∧ 0 ≤ at') (hst : st + 1 < 100000 ∧ 0 ≤ st) (H0 : List AObj) (hid : H0[id]? = some (.cells 54 (mc vs is n i0 i1 i2 i3 stk (k + 1 : Nat) at' st))) (hb0' : is < H0.length) (now : List Int) (hn' : now.length = n) (hix : H0[is]? = some (.arr 3 1 (now.map fun v => [AV.i v]))) (hne : id ≠ is) (hj : now[j]? = some w) (hv : vr.low ≤ v ∧ v ≤ vr.high) :
    ARun Tryd.prog 29 [.p id 0, .agg [.i 11, .i (j : Nat), .i rel]] H0 (.ret (.i 0) ((H0.set id (.cells 54 (mc vs is n i0 i1 i2 i3 stk (k : Nat) (at' + 1) (st + 1)))).set is (.arr 3 1 ((now.set j v).map fun v => [AV.i v])))) := by
  have wa : IntKind.i64.wrap (at' + 1) = at' + 1 := wrap_of (by omega) (by omega)
  have ws : IntKind.i64.wrap (st + 1) = st + 1 := wrap_of (by omega) (by omega)
  (refine ARun.intro Tryd.func29 rfl Tryd.call29 Tryd.ntmps29 Tryd.results29 ?_; simp only [List.length_cons, List.length_nil, List.length_map, Nat.reduceAdd, Nat.reduceSub, List.replicate_succ, List.replicate_zero, List.cons_append, List.nil_append])
  repeat' (first | refine awp_seq ?_ | refine awp_block ?_ | refine awp_scope ?_ | ((first | refine awp_region_k fun Kn Kp hn hp => ?_ | show AWP _ _ (Code.region 3 _ true) _ _ _; refine awp_drawn_k (id := 3) [] [] [.win [0], .win [0], .win [0], .win [0], .win [0], .win [0]] 0 rfl (by as_aux_lemma => kernel_rfl) fun Kn Kp hn hp => ?_ | show AWP _ _ (Code.region 8 _ true) _ _ _; refine awp_drawn_k (id := 8) [] [] [.win [0], .win [0], .win [0], .win [0], .win [0], .win [0], .win [0], .win [0], .win [0]] 0 rfl (by as_aux_lemma => kernel_rfl) fun Kn Kp hn hp => ?_ | show AWP _ _ (Code.region 10 _ true) _ _ _; refine awp_drawn_k (id := 10) [] [] [.win [0], .win [0], .win [0], .win [0], .win [0], .win [0], .win [0], .win [0]] 0 rfl (by as_aux_lemma => kernel_rfl) fun Kn Kp hn hp => ?_ | show AWP _ _ (Code.region 15 _ true) _ _ _; refine awp_drawn_k (id := 15) [1, 5] [] [.win [0], .eff 0, .win [0, 1], .win [0, 1], .win [0, 1], .eff 1, .win [2]] 2 rfl (by as_aux_lemma => kernel_rfl) fun Kn Kp hn hp => ?_ | show AWP _ _ (Code.region 5 _ true) _ _ _; refine awp_drawn_k (id := 5) [] [] [.win [0], .win [0], .win [0], .win [0], .win [0], .win [0]] 0 rfl (by as_aux_lemma => kernel_rfl) fun Kn Kp hn hp => ?_ | refine oge_intro (by assumption) ?_ | (show AWE _ _ _ _ _ _ _ _ _; first | refine awe_intro (store_ok vs is n i0 i1 i2 i3 stk hs (at' + 1) (st + 1) id k j v w vr hk hvj _ (getSetL hid _ _) (by simp only [List.length_append, List.length_set]; omega) now hn' (getNeL hix hne _ _) hne hj hv) ?_) | (show AWSF _ _ _ _ _ _ _ _ _ _ _; first | refine awsf_intro (store_ok vs is n i0 i1 i2 i3 stk hs (at' + 1) (st + 1) id k j v w vr hk hvj _ (getSetL hid _ _) (by simp only [List.length_append, List.length_set]; omega) now hn' (getNeL hix hne _ _) hne hj hv) (fun hrun => ?_)) | (show OGE _ _ _ _ _ _ _; first | refine oge_intro (store_ok vs is n i0 i1 i2 i3 stk hs (at' + 1) (st + 1) id k j v w vr hk hvj _ (getSetL hid _ _) (by simp only [List.length_append, List.length_set]; omega) now hn' (getNeL hix hne _ _) hne hj hv) ?_) | (show AWSE _ _ _ _ _ _ _ _ _ _ _; first | refine awse_intro (store_ok vs is n i0 i1 i2 i3 stk hs (at' + 1) (st + 1) id k j v w vr hk hvj _ (getSetL hid _ _) (by simp only [List.length_append, List.length_set]; omega) now hn' (getNeL hix hne _ _) hne hj hv) (fun hrun => ?_)) | (show PGE _ _ _ _ _; first | refine pge_intro (store_ok vs is n i0 i1 i2 i3 stk hs (at' + 1) (st + 1) id k j v w vr hk hvj _ (getSetL hid _ _) (by simp only [List.length_append, List.length_set]; omega) now hn' (getNeL hix hne _ _) hne hj hv) (fun tm' => ?_))) <;> (simp only [go_sem, Nat.reduceAdd, Nat.reduceSub, Nat.reduceMul, Nat.reduceLeDiff, Nat.reduceLT, Nat.reduceEqDiff, Int.reduceToNat, Int.reduceAdd, Int.reduceMul, Int.reduceSub, Int.reduceLT, Int.reduceLE, Int.reduceEq, Int.reduceNeg, Int.reduceBEq, Int.reduceBNe, ↓reduceIte, reduceCtorEq, hid, getSet hid, getOut hid, setOut hid, getSetL hid, setSetL hid, List.set_set, List.length_set, mc_len hs, mc_at hs, mc_st hs, mc_setat hs, mc_setst hs, mc_state, mc_vars, wa, ws, setNeL hix hne] <;> try simp (disch := omega) only [wrap_of])) | (refine hn _ _ ?_; clear hn hp Kn Kp) | (refine hp _ _ _ ?_; clear hn hp Kn Kp) | (refine awp_cond rfl (fun hb => ?_) (fun hb => ?_) <;> (try simp only [decide_eq_true_eq, decide_eq_false_iff_not, Bool.not_eq_true', Bool.not_eq_false', Bool.true_eq_false, Bool.false_eq_true, beq_iff_eq, bne_iff_ne, bne_eq_false_iff_eq, beq_eq_false_iff_ne, gt_iff_lt, ge_iff_le, Int.reduceEq, Int.reduceNe, Int.reduceLT, Int.reduceLE, ne_eq, not_true_eq_false, not_false_eq_true] at hb)) | ((first | refine awg_split (fun hb => ?_) (fun hb => ?_) | refine awsg_split (fun hb => ?_) (fun hb => ?_)) <;> have hb0 := hb <;> (try simp only [decide_eq_true_eq, decide_eq_false_iff_not, Bool.not_eq_true', Bool.not_eq_false', Bool.true_eq_false, Bool.false_eq_true, beq_iff_eq, bne_iff_ne, bne_eq_false_iff_eq, beq_eq_false_iff_ne, gt_iff_lt, ge_iff_le, Int.reduceEq, Int.reduceNe, Int.reduceLT, Int.reduceLE, ne_eq, not_true_eq_false, not_false_eq_true] at hb0) <;> (try simp only [beq_true, beq_false, Bool.not_eq_true', Bool.not_eq_false'] at hb) <;> (simp only [go_sem, Nat.reduceAdd, Nat.reduceSub, Nat.reduceMul, Nat.reduceLeDiff, Nat.reduceLT, Nat.reduceEqDiff, Int.reduceToNat, Int.reduceAdd, Int.reduceMul, Int.reduceSub, Int.reduceLT, Int.reduceLE, Int.reduceEq, Int.reduceNeg, Int.reduceBEq, Int.reduceBNe, ↓reduceIte, reduceCtorEq, hid, getSet hid, getOut hid, setOut hid, getSetL hid, setSetL hid, List.set_set, List.length_set, mc_len hs, mc_at hs, mc_st hs, mc_setat hs, mc_setst hs, mc_state, mc_vars, wa, ws, setNeL hix hne, hb, hb0] <;> try simp (disch := omega) only [wrap_of])) | (refine And.intro ?_ ?_) | refine awp_skip ?_ | refine awp_ret ?_ | refine awp_exit ?_ | refine awp_label ?_ | refine awloop_step ?_ | fail)
  ((try simp only [go_sem, Nat.reduceAdd, Nat.reduceSub, Nat.reduceMul, Nat.reduceLeDiff, Nat.reduceLT, Nat.reduceEqDiff, Int.reduceToNat, Int.reduceAdd, Int.reduceMul, Int.reduceSub, Int.reduceLT, Int.reduceLE, Int.reduceEq, Int.reduceNeg, Int.reduceBEq, Int.reduceBNe, ↓reduceIte, reduceCtorEq]); (first | refine ⟨_, rfl, _, rfl, Fin.set20 1 ?_ ?_ ?_⟩ | refine ⟨_, rfl, _, rfl, Fin.set2 1 ?_ ?_ ?_⟩))
  · exact mc_under hb0'
  · exact row_under
  · simp only [AV.low]
theorem step_unless_true (k : Nat) (a b nn rel : Int) (hr : 1 ≤ rel ∧ rel ≤ 6) (hka : stk[k]? = some a) (hkb : stk[k + 1]? = some b) (hat : at' + 1 < 100000 ∧ 0 ≤ at') (hst : st + 1 < 100000 ∧ 0 ≤ st) (H0 : List AObj) (hid : H0[id]? = some (.cells 54 (mc vs is n i0 i1 i2 i3 stk (k + 1 + 1 : Nat) at' st))) (hb0' : is < H0.length) (hh : holdsS a rel b = true) :
    ARun Tryd.prog 29 [.p id 0, .agg [.i 12, .i nn, .i rel]] H0 (.ret (.i 0) (H0.set id (.cells 54 (mc vs is n i0 i1 i2 i3 stk (k : Nat) (at' + 1) (st + 1))))) := by
  have wa : IntKind.i64.wrap (at' + 1) = at' + 1 := wrap_of (by omega) (by omega)
  have ws : IntKind.i64.wrap (st + 1) = st + 1 := wrap_of (by omega) (by omega)
  have hholds := fun H0 => holds_run a rel b hr H0
  simp only [hh] at hholds
  have hp2 : ARun Tryd.prog 39 [.p id 0] (H0.set id (.cells 54 (mc vs is n i0 i1 i2 i3 stk (k + 1 : Nat) (at' + 1) (st + 1))) ++ [.cells 42 [.i 12, .i nn, .i rel]]) (.ret (.i a) (H0.set id (.cells 54 (mc vs is n i0 i1 i2 i3 stk (k : Nat) (at' + 1) (st + 1))) ++ [.cells 42 [.i 12, .i nn, .i rel]])) := by simpa only [setSetL hid] using pop_run vs is n i0 i1 i2 i3 stk hs (at' + 1) (st + 1) id k a hka _ (getSetL hid _ [.cells 42 [.i 12, .i nn, .i rel]]) (by simp only [List.length_append, List.length_set]; omega)
  (refine ARun.intro Tryd.func29 rfl Tryd.call29 Tryd.ntmps29 Tryd.results29 ?_; simp only [List.length_cons, List.length_nil, List.length_map, Nat.reduceAdd, Nat.reduceSub, List.replicate_succ, List.replicate_zero, List.cons_append, List.nil_append])
  repeat' (first | refine awp_seq ?_ | refine awp_block ?_ | refine awp_scope ?_ | ((first | refine awp_region_k fun Kn Kp hn hp => ?_ | show AWP _ _ (Code.region 3 _ true) _ _ _; refine awp_drawn_k (id := 3) [] [] [.win [0], .win [0], .win [0], .win [0], .win [0], .win [0]] 0 rfl (by as_aux_lemma => kernel_rfl) fun Kn Kp hn hp => ?_ | show AWP _ _ (Code.region 8 _ true) _ _ _; refine awp_drawn_k (id := 8) [] [] [.win [0], .win [0], .win [0], .win [0], .win [0], .win [0], .win [0], .win [0], .win [0]] 0 rfl (by as_aux_lemma => kernel_rfl) fun Kn Kp hn hp => ?_ | show AWP _ _ (Code.region 10 _ true) _ _ _; refine awp_drawn_k (id := 10) [] [] [.win [0], .win [0], .win [0], .win [0], .win [0], .win [0], .win [0], .win [0]] 0 rfl (by as_aux_lemma => kernel_rfl) fun Kn Kp hn hp => ?_ | show AWP _ _ (Code.region 15 _ true) _ _ _; refine awp_drawn_k (id := 15) [1, 5] [] [.win [0], .eff 0, .win [0, 1], .win [0, 1], .win [0, 1], .eff 1, .win [2]] 2 rfl (by as_aux_lemma => kernel_rfl) fun Kn Kp hn hp => ?_ | show AWP _ _ (Code.region 5 _ true) _ _ _; refine awp_drawn_k (id := 5) [] [] [.win [0], .win [0], .win [0], .win [0], .win [0], .win [0]] 0 rfl (by as_aux_lemma => kernel_rfl) fun Kn Kp hn hp => ?_ | refine oge_intro (by assumption) ?_ | (show AWE _ _ _ _ _ _ _ _ _; first | refine awe_intro (pop_run vs is n i0 i1 i2 i3 stk hs (at' + 1) (st + 1) id (k + 1) b hkb _ (getSetL hid _ _) (by simp only [List.length_append, List.length_set]; omega)) ?_ | refine awe_intro (hp2) ?_ | refine awe_intro (hholds _) ?_) | (show AWSF _ _ _ _ _ _ _ _ _ _ _; first | refine awsf_intro (pop_run vs is n i0 i1 i2 i3 stk hs (at' + 1) (st + 1) id (k + 1) b hkb _ (getSetL hid _ _) (by simp only [List.length_append, List.length_set]; omega)) (fun hrun => ?_) | refine awsf_intro (hp2) (fun hrun => ?_) | refine awsf_intro (hholds _) (fun hrun => ?_)) | (show OGE _ _ _ _ _ _ _; first | refine oge_intro (pop_run vs is n i0 i1 i2 i3 stk hs (at' + 1) (st + 1) id (k + 1) b hkb _ (getSetL hid _ _) (by simp only [List.length_append, List.length_set]; omega)) ?_ | refine oge_intro (hp2) ?_ | refine oge_intro (hholds _) ?_) | (show AWSE _ _ _ _ _ _ _ _ _ _ _; first | refine awse_intro (pop_run vs is n i0 i1 i2 i3 stk hs (at' + 1) (st + 1) id (k + 1) b hkb _ (getSetL hid _ _) (by simp only [List.length_append, List.length_set]; omega)) (fun hrun => ?_) | refine awse_intro (hp2) (fun hrun => ?_) | refine awse_intro (hholds _) (fun hrun => ?_)) | (show PGE _ _ _ _ _; first | refine pge_intro (pop_run vs is n i0 i1 i2 i3 stk hs (at' + 1) (st + 1) id (k + 1) b hkb _ (getSetL hid _ _) (by simp only [List.length_append, List.length_set]; omega)) (fun tm' => ?_) | refine pge_intro (hp2) (fun tm' => ?_) | refine pge_intro (hholds _) (fun tm' => ?_))) <;> (simp only [go_sem, Nat.reduceAdd, Nat.reduceSub, Nat.reduceMul, Nat.reduceLeDiff, Nat.reduceLT, Nat.reduceEqDiff, Int.reduceToNat, Int.reduceAdd, Int.reduceMul, Int.reduceSub, Int.reduceLT, Int.reduceLE, Int.reduceEq, Int.reduceNeg, Int.reduceBEq, Int.reduceBNe, ↓reduceIte, reduceCtorEq, hid, getSet hid, getOut hid, setOut hid, getSetL hid, setSetL hid, List.set_set, List.length_set, mc_len hs, mc_at hs, mc_st hs, mc_setat hs, mc_setst hs, mc_state, mc_vars, wa, ws] <;> try simp (disch := omega) only [wrap_of])) | (refine hn _ _ ?_; clear hn hp Kn Kp) | (refine hp _ _ _ ?_; clear hn hp Kn Kp) | (refine awp_cond rfl (fun hb => ?_) (fun hb => ?_) <;> (try simp only [decide_eq_true_eq, decide_eq_false_iff_not, Bool.not_eq_true', Bool.not_eq_false', Bool.true_eq_false, Bool.false_eq_true, beq_iff_eq, bne_iff_ne, bne_eq_false_iff_eq, beq_eq_false_iff_ne, gt_iff_lt, ge_iff_le, Int.reduceEq, Int.reduceNe, Int.reduceLT, Int.reduceLE, ne_eq, not_true_eq_false, not_false_eq_true] at hb)) | ((first | refine awg_split (fun hb => ?_) (fun hb => ?_) | refine awsg_split (fun hb => ?_) (fun hb => ?_)) <;> have hb0 := hb <;> (try simp only [decide_eq_true_eq, decide_eq_false_iff_not, Bool.not_eq_true', Bool.not_eq_false', Bool.true_eq_false, Bool.false_eq_true, beq_iff_eq, bne_iff_ne, bne_eq_false_iff_eq, beq_eq_false_iff_ne, gt_iff_lt, ge_iff_le, Int.reduceEq, Int.reduceNe, Int.reduceLT, Int.reduceLE, ne_eq, not_true_eq_false, not_false_eq_true] at hb0) <;> (try simp only [beq_true, beq_false, Bool.not_eq_true', Bool.not_eq_false'] at hb) <;> (simp only [go_sem, Nat.reduceAdd, Nat.reduceSub, Nat.reduceMul, Nat.reduceLeDiff, Nat.reduceLT, Nat.reduceEqDiff, Int.reduceToNat, Int.reduceAdd, Int.reduceMul, Int.reduceSub, Int.reduceLT, Int.reduceLE, Int.reduceEq, Int.reduceNeg, Int.reduceBEq, Int.reduceBNe, ↓reduceIte, reduceCtorEq, hid, getSet hid, getOut hid, setOut hid, getSetL hid, setSetL hid, List.set_set, List.length_set, mc_len hs, mc_at hs, mc_st hs, mc_setat hs, mc_setst hs, mc_state, mc_vars, wa, ws, hb, hb0] <;> try simp (disch := omega) only [wrap_of])) | (refine And.intro ?_ ?_) | refine awp_skip ?_ | refine awp_ret ?_ | refine awp_exit ?_ | refine awp_label ?_ | refine awloop_step ?_ | fail)
  ((try simp only [go_sem, Nat.reduceAdd, Nat.reduceSub, Nat.reduceMul, Nat.reduceLeDiff, Nat.reduceLT, Nat.reduceEqDiff, Int.reduceToNat, Int.reduceAdd, Int.reduceMul, Int.reduceSub, Int.reduceLT, Int.reduceLE, Int.reduceEq, Int.reduceNeg, Int.reduceBEq, Int.reduceBNe, ↓reduceIte, reduceCtorEq]); (first | refine ⟨_, rfl, _, rfl, Fin.set0 1 ?_ ?_⟩ | refine ⟨_, rfl, _, rfl, Fin.set 1 ?_ ?_⟩))
  · exact mc_under hb0'
  · simp only [AV.low]
theorem step_unless_false (k : Nat) (a b nn rel : Int) (hr : 1 ≤ rel ∧ rel ≤ 6) (hka : stk[k]? = some a) (hkb : stk[k + 1]? = some b) (hat : at' + 1 < 100000 ∧ 0 ≤ at') (hst : st + 1 < 100000 ∧ 0 ≤ st) (H0 : List AObj) (hid : H0[id]? = some (.cells 54 (mc vs is n i0 i1 i2 i3 stk (k + 1 + 1 : Nat) at' st))) (hb0' : is < H0.length) (hh : holdsS a rel b = false) :
    ARun Tryd.prog 29 [.p id 0, .agg [.i 12, .i nn, .i rel]] H0 (.ret (.i 0) (H0.set id (.cells 54 (mc vs is n i0 i1 i2 i3 stk (k : Nat) nn (st + 1))))) := by
  have wa : IntKind.i64.wrap (at' + 1) = at' + 1 := wrap_of (by omega) (by omega)
  have ws : IntKind.i64.wrap (st + 1) = st + 1 := wrap_of (by omega) (by omega)
  have hholds := fun H0 => holds_run a rel b hr H0
  simp only [hh] at hholds
  have hp2 : ARun Tryd.prog 39 [.p id 0] (H0.set id (.cells 54 (mc vs is n i0 i1 i2 i3 stk (k + 1 : Nat) (at' + 1) (st + 1))) ++ [.cells 42 [.i 12, .i nn, .i rel]]) (.ret (.i a) (H0.set id (.cells 54 (mc vs is n i0 i1 i2 i3 stk (k : Nat) (at' + 1) (st + 1))) ++ [.cells 42 [.i 12, .i nn, .i rel]])) := by simpa only [setSetL hid] using pop_run vs is n i0 i1 i2 i3 stk hs (at' + 1) (st + 1) id k a hka _ (getSetL hid _ [.cells 42 [.i 12, .i nn, .i rel]]) (by simp only [List.length_append, List.length_set]; omega)
  (refine ARun.intro Tryd.func29 rfl Tryd.call29 Tryd.ntmps29 Tryd.results29 ?_; simp only [List.length_cons, List.length_nil, List.length_map, Nat.reduceAdd, Nat.reduceSub, List.replicate_succ, List.replicate_zero, List.cons_append, List.nil_append])
  repeat' (first | refine awp_seq ?_ | refine awp_block ?_ | refine awp_scope ?_ | ((first | refine awp_region_k fun Kn Kp hn hp => ?_ | show AWP _ _ (Code.region 3 _ true) _ _ _; refine awp_drawn_k (id := 3) [] [] [.win [0], .win [0], .win [0], .win [0], .win [0], .win [0]] 0 rfl (by as_aux_lemma => kernel_rfl) fun Kn Kp hn hp => ?_ | show AWP _ _ (Code.region 8 _ true) _ _ _; refine awp_drawn_k (id := 8) [] [] [.win [0], .win [0], .win [0], .win [0], .win [0], .win [0], .win [0], .win [0], .win [0]] 0 rfl (by as_aux_lemma => kernel_rfl) fun Kn Kp hn hp => ?_ | show AWP _ _ (Code.region 10 _ true) _ _ _; refine awp_drawn_k (id := 10) [] [] [.win [0], .win [0], .win [0], .win [0], .win [0], .win [0], .win [0], .win [0]] 0 rfl (by as_aux_lemma => kernel_rfl) fun Kn Kp hn hp => ?_ | show AWP _ _ (Code.region 15 _ true) _ _ _; refine awp_drawn_k (id := 15) [1, 5] [] [.win [0], .eff 0, .win [0, 1], .win [0, 1], .win [0, 1], .eff 1, .win [2]] 2 rfl (by as_aux_lemma => kernel_rfl) fun Kn Kp hn hp => ?_ | show AWP _ _ (Code.region 5 _ true) _ _ _; refine awp_drawn_k (id := 5) [] [] [.win [0], .win [0], .win [0], .win [0], .win [0], .win [0]] 0 rfl (by as_aux_lemma => kernel_rfl) fun Kn Kp hn hp => ?_ | refine oge_intro (by assumption) ?_ | (show AWE _ _ _ _ _ _ _ _ _; first | refine awe_intro (pop_run vs is n i0 i1 i2 i3 stk hs (at' + 1) (st + 1) id (k + 1) b hkb _ (getSetL hid _ _) (by simp only [List.length_append, List.length_set]; omega)) ?_ | refine awe_intro (hp2) ?_ | refine awe_intro (hholds _) ?_) | (show AWSF _ _ _ _ _ _ _ _ _ _ _; first | refine awsf_intro (pop_run vs is n i0 i1 i2 i3 stk hs (at' + 1) (st + 1) id (k + 1) b hkb _ (getSetL hid _ _) (by simp only [List.length_append, List.length_set]; omega)) (fun hrun => ?_) | refine awsf_intro (hp2) (fun hrun => ?_) | refine awsf_intro (hholds _) (fun hrun => ?_)) | (show OGE _ _ _ _ _ _ _; first | refine oge_intro (pop_run vs is n i0 i1 i2 i3 stk hs (at' + 1) (st + 1) id (k + 1) b hkb _ (getSetL hid _ _) (by simp only [List.length_append, List.length_set]; omega)) ?_ | refine oge_intro (hp2) ?_ | refine oge_intro (hholds _) ?_) | (show AWSE _ _ _ _ _ _ _ _ _ _ _; first | refine awse_intro (pop_run vs is n i0 i1 i2 i3 stk hs (at' + 1) (st + 1) id (k + 1) b hkb _ (getSetL hid _ _) (by simp only [List.length_append, List.length_set]; omega)) (fun hrun => ?_) | refine awse_intro (hp2) (fun hrun => ?_) | refine awse_intro (hholds _) (fun hrun => ?_)) | (show PGE _ _ _ _ _; first | refine pge_intro (pop_run vs is n i0 i1 i2 i3 stk hs (at' + 1) (st + 1) id (k + 1) b hkb _ (getSetL hid _ _) (by simp only [List.length_append, List.length_set]; omega)) (fun tm' => ?_) | refine pge_intro (hp2) (fun tm' => ?_) | refine pge_intro (hholds _) (fun tm' => ?_))) <;> (simp only [go_sem, Nat.reduceAdd, Nat.reduceSub, Nat.reduceMul, Nat.reduceLeDiff, Nat.reduceLT, Nat.reduceEqDiff, Int.reduceToNat, Int.reduceAdd, Int.reduceMul, Int.reduceSub, Int.reduceLT, Int.reduceLE, Int.reduceEq, Int.reduceNeg, Int.reduceBEq, Int.reduceBNe, ↓reduceIte, reduceCtorEq, hid, getSet hid, getOut hid, setOut hid, getSetL hid, setSetL hid, List.set_set, List.length_set, mc_len hs, mc_at hs, mc_st hs, mc_setat hs, mc_setst hs, mc_state, mc_vars, wa, ws] <;> try simp (disch := omega) only [wrap_of])) | (refine hn _ _ ?_; clear hn hp Kn Kp) | (refine hp _ _ _ ?_; clear hn hp Kn Kp) | (refine awp_cond rfl (fun hb => ?_) (fun hb => ?_) <;> (try simp only [decide_eq_true_eq, decide_eq_false_iff_not, Bool.not_eq_true', Bool.not_eq_false', Bool.true_eq_false, Bool.false_eq_true, beq_iff_eq, bne_iff_ne, bne_eq_false_iff_eq, beq_eq_false_iff_ne, gt_iff_lt, ge_iff_le, Int.reduceEq, Int.reduceNe, Int.reduceLT, Int.reduceLE, ne_eq, not_true_eq_false, not_false_eq_true] at hb)) | ((first | refine awg_split (fun hb => ?_) (fun hb => ?_) | refine awsg_split (fun hb => ?_) (fun hb => ?_)) <;> have hb0 := hb <;> (try simp only [decide_eq_true_eq, decide_eq_false_iff_not, Bool.not_eq_true', Bool.not_eq_false', Bool.true_eq_false, Bool.false_eq_true, beq_iff_eq, bne_iff_ne, bne_eq_false_iff_eq, beq_eq_false_iff_ne, gt_iff_lt, ge_iff_le, Int.reduceEq, Int.reduceNe, Int.reduceLT, Int.reduceLE, ne_eq, not_true_eq_false, not_false_eq_true] at hb0) <;> (try simp only [beq_true, beq_false, Bool.not_eq_true', Bool.not_eq_false'] at hb) <;> (simp only [go_sem, Nat.reduceAdd, Nat.reduceSub, Nat.reduceMul, Nat.reduceLeDiff, Nat.reduceLT, Nat.reduceEqDiff, Int.reduceToNat, Int.reduceAdd, Int.reduceMul, Int.reduceSub, Int.reduceLT, Int.reduceLE, Int.reduceEq, Int.reduceNeg, Int.reduceBEq, Int.reduceBNe, ↓reduceIte, reduceCtorEq, hid, getSet hid, getOut hid, setOut hid, getSetL hid, setSetL hid, List.set_set, List.length_set, mc_len hs, mc_at hs, mc_st hs, mc_setat hs, mc_setst hs, mc_state, mc_vars, wa, ws, hb, hb0] <;> try simp (disch := omega) only [wrap_of])) | (refine And.intro ?_ ?_) | refine awp_skip ?_ | refine awp_ret ?_ | refine awp_exit ?_ | refine awp_label ?_ | refine awloop_step ?_ | fail)
  ((try simp only [go_sem, Nat.reduceAdd, Nat.reduceSub, Nat.reduceMul, Nat.reduceLeDiff, Nat.reduceLT, Nat.reduceEqDiff, Int.reduceToNat, Int.reduceAdd, Int.reduceMul, Int.reduceSub, Int.reduceLT, Int.reduceLE, Int.reduceEq, Int.reduceNeg, Int.reduceBEq, Int.reduceBNe, ↓reduceIte, reduceCtorEq]); (first | refine ⟨_, rfl, _, rfl, Fin.set0 1 ?_ ?_⟩ | refine ⟨_, rfl, _, rfl, Fin.set 1 ?_ ?_⟩))
  · exact mc_under hb0'
  · simp only [AV.low]
theorem step_goto (k : Nat) (nn rel : Int) (hat : at' + 1 < 100000 ∧ 0 ≤ at') (hst : st + 1 < 100000 ∧ 0 ≤ st) (H0 : List AObj) (hid : H0[id]? = some (.cells 54 (mc vs is n i0 i1 i2 i3 stk (k : Nat) at' st))) (hb0' : is < H0.length) :
    ARun Tryd.prog 29 [.p id 0, .agg [.i 13, .i nn, .i rel]] H0 (.ret (.i 0) (H0.set id (.cells 54 (mc vs is n i0 i1 i2 i3 stk (k : Nat) nn (st + 1))))) := by
  have wa : IntKind.i64.wrap (at' + 1) = at' + 1 := wrap_of (by omega) (by omega)
  have ws : IntKind.i64.wrap (st + 1) = st + 1 := wrap_of (by omega) (by omega)
  (refine ARun.intro Tryd.func29 rfl Tryd.call29 Tryd.ntmps29 Tryd.results29 ?_; simp only [List.length_cons, List.length_nil, List.length_map, Nat.reduceAdd, Nat.reduceSub, List.replicate_succ, List.replicate_zero, List.cons_append, List.nil_append])
  (have rr1 := dr29_3_X10e; have rr2 := dr29_8_X10e; have rr3 := dr29_10_X10e; have rr4 := dr29_15_X10e; have rr5 := dr29_5_X10e; have ww1 := hid; have ww2 := getSet hid; have ww3 := getOut hid; have ww4 := setOut hid; have ww5 := getSetL hid; have ww6 := setSetL hid; have ww7 := @mc_len; have ww8 := hs; have ww9 := @mc_at; have ww10 := @mc_st; have ww11 := @mc_setat; have ww12 := @mc_setst; have ww13 := @mc_state; have ww14 := @mc_vars; have ww15 := wa; have ww16 := ws; refine wk ?_; clear rr1 rr2 rr3 rr4 rr5 ww1 ww2 ww3 ww4 ww5 ww6 ww7 ww8 ww9 ww10 ww11 ww12 ww13 ww14 ww15 ww16; (repeat' first | exact True.intro | refine Lf.mk ?_ ?_); all_goals intro hP)
  ((try simp only [go_sem, Nat.reduceAdd, Nat.reduceSub, Nat.reduceMul, Nat.reduceLeDiff, Nat.reduceLT, Nat.reduceEqDiff, Int.reduceToNat, Int.reduceAdd, Int.reduceMul, Int.reduceSub, Int.reduceLT, Int.reduceLE, Int.reduceEq, Int.reduceNeg, Int.reduceBEq, Int.reduceBNe, ↓reduceIte, reduceCtorEq]); (first | refine ⟨_, rfl, _, rfl, Fin.set0 1 ?_ ?_⟩ | refine ⟨_, rfl, _, rfl, Fin.set 1 ?_ ?_⟩))
  · exact mc_under hb0'
  · simp only [AV.low]
theorem step_calc_ok (k : Nat) (op a b v nn rel : Int) (hop : 4 ≤ op ∧ op ≤ 10) (hc : calcS op a b = .ok v) (hka : stk[k]? = some a) (hkb : stk[k + 1]? = some b) (ha : isV a) (hb' : isV b) (hat : at' + 1 < 100000 ∧ 0 ≤ at') (hst : st + 1 < 100000 ∧ 0 ≤ st) (H0 : List AObj) (hid : H0[id]? = some (.cells 54 (mc vs is n i0 i1 i2 i3 stk (k + 1 + 1 : Nat) at' st))) (hb0' : is < H0.length) :
    ARun Tryd.prog 29 [.p id 0, .agg [.i op, .i nn, .i rel]] H0 (.ret (.i 0) (H0.set id (.cells 54 (mc vs is n i0 i1 i2 i3 (stk.set k v) (k + 1 : Nat) (at' + 1) (st + 1))))) := by
  have wa : IntKind.i64.wrap (at' + 1) = at' + 1 := wrap_of (by omega) (by omega)
  have ws : IntKind.i64.wrap (st + 1) = st + 1 := wrap_of (by omega) (by omega)
  have e1 : (op == 1) = false := by simp; omega
  have e2 : (op == 2) = false := by simp; omega
  have e3 : (op == 3) = false := by simp; omega
  have e11 : (op == 11) = false := by simp; omega
  have e12 : (op == 12) = false := by simp; omega
  have e13 : (op == 13) = false := by simp; omega
  (refine ARun.intro Tryd.func29 rfl Tryd.call29 Tryd.ntmps29 Tryd.results29 ?_; simp only [List.length_cons, List.length_nil, List.length_map, Nat.reduceAdd, Nat.reduceSub, List.replicate_succ, List.replicate_zero, List.cons_append, List.nil_append])
  repeat' (first | refine awp_seq ?_ | refine awp_block ?_ | refine awp_scope ?_ | ((first | refine awp_region_k fun Kn Kp hn hp => ?_ | show AWP _ _ (Code.region 3 _ true) _ _ _; refine awp_drawn_k (id := 3) [] [] [.win [0], .win [0], .win [0], .win [0], .win [0], .win [0]] 0 rfl (by as_aux_lemma => kernel_rfl) fun Kn Kp hn hp => ?_ | show AWP _ _ (Code.region 8 _ true) _ _ _; refine awp_drawn_k (id := 8) [] [] [.win [0], .win [0], .win [0], .win [0], .win [0], .win [0], .win [0], .win [0], .win [0]] 0 rfl (by as_aux_lemma => kernel_rfl) fun Kn Kp hn hp => ?_ | show AWP _ _ (Code.region 10 _ true) _ _ _; refine awp_drawn_k (id := 10) [] [] [.win [0], .win [0], .win [0], .win [0], .win [0], .win [0], .win [0], .win [0]] 0 rfl (by as_aux_lemma => kernel_rfl) fun Kn Kp hn hp => ?_ | show AWP _ _ (Code.region 15 _ true) _ _ _; refine awp_drawn_k (id := 15) [1, 5] [] [.win [0], .eff 0, .win [0, 1], .win [0, 1], .win [0, 1], .eff 1, .win [2]] 2 rfl (by as_aux_lemma => kernel_rfl) fun Kn Kp hn hp => ?_ | show AWP _ _ (Code.region 5 _ true) _ _ _; refine awp_drawn_k (id := 5) [] [] [.win [0], .win [0], .win [0], .win [0], .win [0], .win [0]] 0 rfl (by as_aux_lemma => kernel_rfl) fun Kn Kp hn hp => ?_ | refine oge_intro (by assumption) ?_ | (show AWE _ _ _ _ _ _ _ _ _; first | refine awe_intro (calc_ok vs is n i0 i1 i2 i3 stk hs (at' + 1) (st + 1) id k op a b v hop hc hka hkb ha hb' _ (getSetL hid _ _) (by simp only [List.length_append, List.length_set]; omega)) ?_) | (show AWSF _ _ _ _ _ _ _ _ _ _ _; first | refine awsf_intro (calc_ok vs is n i0 i1 i2 i3 stk hs (at' + 1) (st + 1) id k op a b v hop hc hka hkb ha hb' _ (getSetL hid _ _) (by simp only [List.length_append, List.length_set]; omega)) (fun hrun => ?_)) | (show OGE _ _ _ _ _ _ _; first | refine oge_intro (calc_ok vs is n i0 i1 i2 i3 stk hs (at' + 1) (st + 1) id k op a b v hop hc hka hkb ha hb' _ (getSetL hid _ _) (by simp only [List.length_append, List.length_set]; omega)) ?_) | (show AWSE _ _ _ _ _ _ _ _ _ _ _; first | refine awse_intro (calc_ok vs is n i0 i1 i2 i3 stk hs (at' + 1) (st + 1) id k op a b v hop hc hka hkb ha hb' _ (getSetL hid _ _) (by simp only [List.length_append, List.length_set]; omega)) (fun hrun => ?_)) | (show PGE _ _ _ _ _; first | refine pge_intro (calc_ok vs is n i0 i1 i2 i3 stk hs (at' + 1) (st + 1) id k op a b v hop hc hka hkb ha hb' _ (getSetL hid _ _) (by simp only [List.length_append, List.length_set]; omega)) (fun tm' => ?_))) <;> (simp only [go_sem, Nat.reduceAdd, Nat.reduceSub, Nat.reduceMul, Nat.reduceLeDiff, Nat.reduceLT, Nat.reduceEqDiff, Int.reduceToNat, Int.reduceAdd, Int.reduceMul, Int.reduceSub, Int.reduceLT, Int.reduceLE, Int.reduceEq, Int.reduceNeg, Int.reduceBEq, Int.reduceBNe, ↓reduceIte, reduceCtorEq, hid, getSet hid, getOut hid, setOut hid, getSetL hid, setSetL hid, List.set_set, List.length_set, mc_len hs, mc_at hs, mc_st hs, mc_setat hs, mc_setst hs, mc_state, mc_vars, wa, ws, e1, e2, e3, e11, e12, e13] <;> try simp (disch := omega) only [wrap_of])) | (refine hn _ _ ?_; clear hn hp Kn Kp) | (refine hp _ _ _ ?_; clear hn hp Kn Kp) | (refine awp_cond rfl (fun hb => ?_) (fun hb => ?_) <;> (try simp only [decide_eq_true_eq, decide_eq_false_iff_not, Bool.not_eq_true', Bool.not_eq_false', Bool.true_eq_false, Bool.false_eq_true, beq_iff_eq, bne_iff_ne, bne_eq_false_iff_eq, beq_eq_false_iff_ne, gt_iff_lt, ge_iff_le, Int.reduceEq, Int.reduceNe, Int.reduceLT, Int.reduceLE, ne_eq, not_true_eq_false, not_false_eq_true] at hb)) | ((first | refine awg_split (fun hb => ?_) (fun hb => ?_) | refine awsg_split (fun hb => ?_) (fun hb => ?_)) <;> have hb0 := hb <;> (try simp only [decide_eq_true_eq, decide_eq_false_iff_not, Bool.not_eq_true', Bool.not_eq_false', Bool.true_eq_false, Bool.false_eq_true, beq_iff_eq, bne_iff_ne, bne_eq_false_iff_eq, beq_eq_false_iff_ne, gt_iff_lt, ge_iff_le, Int.reduceEq, Int.reduceNe, Int.reduceLT, Int.reduceLE, ne_eq, not_true_eq_false, not_false_eq_true] at hb0) <;> (try simp only [beq_true, beq_false, Bool.not_eq_true', Bool.not_eq_false'] at hb) <;> (simp only [go_sem, Nat.reduceAdd, Nat.reduceSub, Nat.reduceMul, Nat.reduceLeDiff, Nat.reduceLT, Nat.reduceEqDiff, Int.reduceToNat, Int.reduceAdd, Int.reduceMul, Int.reduceSub, Int.reduceLT, Int.reduceLE, Int.reduceEq, Int.reduceNeg, Int.reduceBEq, Int.reduceBNe, ↓reduceIte, reduceCtorEq, hid, getSet hid, getOut hid, setOut hid, getSetL hid, setSetL hid, List.set_set, List.length_set, mc_len hs, mc_at hs, mc_st hs, mc_setat hs, mc_setst hs, mc_state, mc_vars, wa, ws, e1, e2, e3, e11, e12, e13, hb, hb0] <;> try simp (disch := omega) only [wrap_of])) | (refine And.intro ?_ ?_) | refine awp_skip ?_ | refine awp_ret ?_ | refine awp_exit ?_ | refine awp_label ?_ | refine awloop_step ?_ | fail)
  ((try simp only [go_sem, Nat.reduceAdd, Nat.reduceSub, Nat.reduceMul, Nat.reduceLeDiff, Nat.reduceLT, Nat.reduceEqDiff, Int.reduceToNat, Int.reduceAdd, Int.reduceMul, Int.reduceSub, Int.reduceLT, Int.reduceLE, Int.reduceEq, Int.reduceNeg, Int.reduceBEq, Int.reduceBNe, ↓reduceIte, reduceCtorEq]); (first | refine ⟨_, rfl, _, rfl, Fin.set0 1 ?_ ?_⟩ | refine ⟨_, rfl, _, rfl, Fin.set 1 ?_ ?_⟩))
  · exact mc_under hb0'
  · simp only [AV.low]
theorem step_calc_err (k : Nat) (op a b e nn rel : Int) (hop : 4 ≤ op ∧ op ≤ 10) (hc : calcS op a b = .error e) (hka : stk[k]? = some a) (hkb : stk[k + 1]? = some b) (ha : isV a) (hb' : isV b) (hat : at' + 1 < 100000 ∧ 0 ≤ at') (hst : st + 1 < 100000 ∧ 0 ≤ st) (H0 : List AObj) (hid : H0[id]? = some (.cells 54 (mc vs is n i0 i1 i2 i3 stk (k + 1 + 1 : Nat) at' st))) (hb0' : is < H0.length) :
    ARun Tryd.prog 29 [.p id 0, .agg [.i op, .i nn, .i rel]] H0 (.ret (.i e) (H0.set id (.cells 54 (mc vs is n i0 i1 i2 i3 stk (k : Nat) (at' + 1) (st + 1))))) := by
  have wa : IntKind.i64.wrap (at' + 1) = at' + 1 := wrap_of (by omega) (by omega)
  have ws : IntKind.i64.wrap (st + 1) = st + 1 := wrap_of (by omega) (by omega)
  have e1 : (op == 1) = false := by simp; omega
  have e2 : (op == 2) = false := by simp; omega
  have e3 : (op == 3) = false := by simp; omega
  have e11 : (op == 11) = false := by simp; omega
  have e12 : (op == 12) = false := by simp; omega
  have e13 : (op == 13) = false := by simp; omega
  (refine ARun.intro Tryd.func29 rfl Tryd.call29 Tryd.ntmps29 Tryd.results29 ?_; simp only [List.length_cons, List.length_nil, List.length_map, Nat.reduceAdd, Nat.reduceSub, List.replicate_succ, List.replicate_zero, List.cons_append, List.nil_append])
  repeat' (first | refine awp_seq ?_ | refine awp_block ?_ | refine awp_scope ?_ | ((first | refine awp_region_k fun Kn Kp hn hp => ?_ | show AWP _ _ (Code.region 3 _ true) _ _ _; refine awp_drawn_k (id := 3) [] [] [.win [0], .win [0], .win [0], .win [0], .win [0], .win [0]] 0 rfl (by as_aux_lemma => kernel_rfl) fun Kn Kp hn hp => ?_ | show AWP _ _ (Code.region 8 _ true) _ _ _; refine awp_drawn_k (id := 8) [] [] [.win [0], .win [0], .win [0], .win [0], .win [0], .win [0], .win [0], .win [0], .win [0]] 0 rfl (by as_aux_lemma => kernel_rfl) fun Kn Kp hn hp => ?_ | show AWP _ _ (Code.region 10 _ true) _ _ _; refine awp_drawn_k (id := 10) [] [] [.win [0], .win [0], .win [0], .win [0], .win [0], .win [0], .win [0], .win [0]] 0 rfl (by as_aux_lemma => kernel_rfl) fun Kn Kp hn hp => ?_ | show AWP _ _ (Code.region 15 _ true) _ _ _; refine awp_drawn_k (id := 15) [1, 5] [] [.win [0], .eff 0, .win [0, 1], .win [0, 1], .win [0, 1], .eff 1, .win [2]] 2 rfl (by as_aux_lemma => kernel_rfl) fun Kn Kp hn hp => ?_ | show AWP _ _ (Code.region 5 _ true) _ _ _; refine awp_drawn_k (id := 5) [] [] [.win [0], .win [0], .win [0], .win [0], .win [0], .win [0]] 0 rfl (by as_aux_lemma => kernel_rfl) fun Kn Kp hn hp => ?_ | refine oge_intro (by assumption) ?_ | (show AWE _ _ _ _ _ _ _ _ _; first | refine awe_intro (calc_err vs is n i0 i1 i2 i3 stk hs (at' + 1) (st + 1) id k op a b e hop hc hka hkb ha hb' _ (getSetL hid _ _) (by simp only [List.length_append, List.length_set]; omega)) ?_) | (show AWSF _ _ _ _ _ _ _ _ _ _ _; first | refine awsf_intro (calc_err vs is n i0 i1 i2 i3 stk hs (at' + 1) (st + 1) id k op a b e hop hc hka hkb ha hb' _ (getSetL hid _ _) (by simp only [List.length_append, List.length_set]; omega)) (fun hrun => ?_)) | (show OGE _ _ _ _ _ _ _; first | refine oge_intro (calc_err vs is n i0 i1 i2 i3 stk hs (at' + 1) (st + 1) id k op a b e hop hc hka hkb ha hb' _ (getSetL hid _ _) (by simp only [List.length_append, List.length_set]; omega)) ?_) | (show AWSE _ _ _ _ _ _ _ _ _ _ _; first | refine awse_intro (calc_err vs is n i0 i1 i2 i3 stk hs (at' + 1) (st + 1) id k op a b e hop hc hka hkb ha hb' _ (getSetL hid _ _) (by simp only [List.length_append, List.length_set]; omega)) (fun hrun => ?_)) | (show PGE _ _ _ _ _; first | refine pge_intro (calc_err vs is n i0 i1 i2 i3 stk hs (at' + 1) (st + 1) id k op a b e hop hc hka hkb ha hb' _ (getSetL hid _ _) (by simp only [List.length_append, List.length_set]; omega)) (fun tm' => ?_))) <;> (simp only [go_sem, Nat.reduceAdd, Nat.reduceSub, Nat.reduceMul, Nat.reduceLeDiff, Nat.reduceLT, Nat.reduceEqDiff, Int.reduceToNat, Int.reduceAdd, Int.reduceMul, Int.reduceSub, Int.reduceLT, Int.reduceLE, Int.reduceEq, Int.reduceNeg, Int.reduceBEq, Int.reduceBNe, ↓reduceIte, reduceCtorEq, hid, getSet hid, getOut hid, setOut hid, getSetL hid, setSetL hid, List.set_set, List.length_set, mc_len hs, mc_at hs, mc_st hs, mc_setat hs, mc_setst hs, mc_state, mc_vars, wa, ws, e1, e2, e3, e11, e12, e13] <;> try simp (disch := omega) only [wrap_of])) | (refine hn _ _ ?_; clear hn hp Kn Kp) | (refine hp _ _ _ ?_; clear hn hp Kn Kp) | (refine awp_cond rfl (fun hb => ?_) (fun hb => ?_) <;> (try simp only [decide_eq_true_eq, decide_eq_false_iff_not, Bool.not_eq_true', Bool.not_eq_false', Bool.true_eq_false, Bool.false_eq_true, beq_iff_eq, bne_iff_ne, bne_eq_false_iff_eq, beq_eq_false_iff_ne, gt_iff_lt, ge_iff_le, Int.reduceEq, Int.reduceNe, Int.reduceLT, Int.reduceLE, ne_eq, not_true_eq_false, not_false_eq_true] at hb)) | ((first | refine awg_split (fun hb => ?_) (fun hb => ?_) | refine awsg_split (fun hb => ?_) (fun hb => ?_)) <;> have hb0 := hb <;> (try simp only [decide_eq_true_eq, decide_eq_false_iff_not, Bool.not_eq_true', Bool.not_eq_false', Bool.true_eq_false, Bool.false_eq_true, beq_iff_eq, bne_iff_ne, bne_eq_false_iff_eq, beq_eq_false_iff_ne, gt_iff_lt, ge_iff_le, Int.reduceEq, Int.reduceNe, Int.reduceLT, Int.reduceLE, ne_eq, not_true_eq_false, not_false_eq_true] at hb0) <;> (try simp only [beq_true, beq_false, Bool.not_eq_true', Bool.not_eq_false'] at hb) <;> (simp only [go_sem, Nat.reduceAdd, Nat.reduceSub, Nat.reduceMul, Nat.reduceLeDiff, Nat.reduceLT, Nat.reduceEqDiff, Int.reduceToNat, Int.reduceAdd, Int.reduceMul, Int.reduceSub, Int.reduceLT, Int.reduceLE, Int.reduceEq, Int.reduceNeg, Int.reduceBEq, Int.reduceBNe, ↓reduceIte, reduceCtorEq, hid, getSet hid, getOut hid, setOut hid, getSetL hid, setSetL hid, List.set_set, List.length_set, mc_len hs, mc_at hs, mc_st hs, mc_setat hs, mc_setst hs, mc_state, mc_vars, wa, ws, e1, e2, e3, e11, e12, e13, hb, hb0] <;> try simp (disch := omega) only [wrap_of])) | (refine And.intro ?_ ?_) | refine awp_skip ?_ | refine awp_ret ?_ | refine awp_exit ?_ | refine awp_label ?_ | refine awloop_step ?_ | fail)
  ((try simp only [go_sem, Nat.reduceAdd, Nat.reduceSub, Nat.reduceMul, Nat.reduceLeDiff, Nat.reduceLT, Nat.reduceEqDiff, Int.reduceToNat, Int.reduceAdd, Int.reduceMul, Int.reduceSub, Int.reduceLT, Int.reduceLE, Int.reduceEq, Int.reduceNeg, Int.reduceBEq, Int.reduceBNe, ↓reduceIte, reduceCtorEq]); (first | refine ⟨_, rfl, _, rfl, Fin.set0 1 ?_ ?_⟩ | refine ⟨_, rfl, _, rfl, Fin.set 1 ?_ ?_⟩))
  · exact mc_under hb0'
  · simp only [AV.low]
end
end Go.Proofs.YtimmncjdknlegaaDoor.Y

set_option maxHeartbeats 8000000
set_option maxRecDepth 20000
set_option linter.unusedVariables false
set_option linter.unusedSimpArgs false
set_option linter.unusedSectionVars false
namespace Go.Proofs.YtimmncjdknlegaaDoor.Y
open Go.Proofs.YtimmncjdknlegaaDoor.AL Go.Proofs Go
attribute [local irreducible] AWP AWL AWG AWR AWE AWX AWO AWSeq AWSG AWSR AWSO AWSE AWSF GoodP OGW OGR OGE OGX PGW PGR PGE Wk AWLoop AWPD AWLD

abbrev mO (vs : List Vr) (is : Nat) (i0 i1 i2 i3 : Int) (stk : List Int) (h a s : Nat) : AObj := .cells 54 (mc vs is vs.length i0 i1 i2 i3 stk (h : Nat) (a : Nat) (s : Nat))
abbrev rO (now : List Int) : AObj := .arr 3 1 (now.map fun v => [AV.i v])
theorem ar_eq {f : FuncId} {a : List AV} {H : List AObj} {o o' : AOut} (h : ARun Tryd.prog f a H o) (e : o = o') : ARun Tryd.prog f a H o' := e ▸ h
theorem set_self {A : List AObj} {i : Nat} {o : AObj} (h : A[i]? = some o) : A.set i o = A := by
  refine List.ext_getElem? fun j => ?_
  rw [List.getElem?_set]
  split
  · rename_i e; subst e
    rw [if_pos (List.getElem?_eq_some_iff.1 h).1, h]
  · rfl
theorem set_row {H0 : List AObj} {id is : Nat} {o : AObj} {now : List Int} (h : H0[is]? = some (rO now)) (hne : id ≠ is) : H0.set id o = (H0.set id o).set is (rO now) :=
  (set_self (by rw [List.getElem?_set_ne hne]; exact h)).symm
section
variable (vs : List Vr) (i0 i1 i2 i3 : Int) (is id : Nat)
theorem mstep_ok {len : Int} {c c' : Cf} {x : Ins} (h : stepS vs i0 i1 i2 i3 x c = .ok c') (hc : CfOk vs c) (ha : At vs len x c) (hi : ∀ j, isV (inS i0 i1 i2 i3 j)) (stk : List Int) (hs : stk.length = 64) (hst : stk.take c.stk.length = c.stk) (s : Nat) (hl : c.at' < 5000) (hs2 : s < 5000)
    (H0 : List AObj) (hid : H0[id]? = some (mO vs is i0 i1 i2 i3 stk c.stk.length c.at' s)) (hb0' : is < H0.length) (hix : H0[is]? = some (rO c.now)) (hne : id ≠ is) :
    ∃ stk', stk'.length = 64 ∧ stk'.take c'.stk.length = c'.stk ∧ ARun Tryd.prog 29 [.p id 0, .agg [.i x.op, .i x.n, .i x.rel]] H0 (.ret (.i 0) ((H0.set id (mO vs is i0 i1 i2 i3 stk' c'.stk.length c'.at' (s + 1))).set is (rO c'.now))) := by
  obtain ⟨op, nn, rel⟩ := x
  have hok := ha.ok
  have htk := ha.tk
  have hpt := ha.pt
  have hop := insOk_op hok
  have hk := stk_le hst
  have b1 : ((c.at' : Nat) : Int) + 1 < 100000 ∧ (0 : Int) ≤ (c.at' : Nat) := by omega
  have b2 : ((s : Nat) : Int) + 1 < 100000 ∧ (0 : Int) ≤ (s : Nat) := by omega
  simp only at hok htk hpt hop ⊢
  unfold insOk at hok
  unfold stepS at h
  simp only at hok h
  by_cases h1 : op = 1
  · subst h1
    simp only [if_true] at h; cases h
    simp [takes, puts] at hok htk hpt
    refine ⟨stk.set c.stk.length nn, by simp [hs], stk_push hst (by omega) _, ?_⟩
    refine ar_eq (step_const vs is vs.length i0 i1 i2 i3 stk hs c.at' s id c.stk.length nn rel (by omega) ⟨hok.2.1, hok.2.2⟩ b1 b2 H0 hid hb0') ?_
    rw [set_row hix hne]; simp [mO, inS]
  by_cases h2 : op = 2
  · subst h2
    simp only [Int.reduceEq, if_false, if_true] at h; cases h
    simp [takes, puts] at hok htk hpt
    have hnl : nn.toNat < c.now.length := by rw [hc.now]; omega
    refine ⟨stk.set c.stk.length _, by simp [hs], stk_push hst (by omega) _, ?_⟩
    have hj : c.now[nn.toNat]? = some (c.now.getD nn.toNat 0) := by rw [List.getD_eq_getElem?_getD, List.getElem?_eq_getElem hnl]; rfl
    have := step_var vs is vs.length i0 i1 i2 i3 stk hs c.at' s id c.stk.length nn.toNat _ rel (by omega) (hc.nowV _ (getD_mem hnl)) b1 b2 H0 hid hb0' c.now hc.now hix hne hj
    rw [Int.toNat_of_nonneg hok.2.1] at this
    refine ar_eq this ?_
    rw [set_row hix hne]; simp [mO, inS]
  by_cases h3 : op = 3
  · subst h3
    simp only [Int.reduceEq, if_false, if_true] at h; cases h
    simp [takes, puts] at hok htk hpt
    refine ⟨stk.set c.stk.length _, by simp [hs], stk_push hst (by omega) _, ?_⟩
    have := step_input vs is vs.length i0 i1 i2 i3 stk hs c.at' s id c.stk.length nn.toNat rel (by omega) (by omega) b1 b2 H0 hid hb0' (hi nn.toNat)
    rw [Int.toNat_of_nonneg hok.2.1] at this
    refine ar_eq this ?_
    rw [set_row hix hne]; simp [mO, inS]
  by_cases h11 : op = 11
  · subst h11
    simp only [Int.reduceEq, if_false, if_true] at h
    simp [takes, puts] at hok htk hpt
    split at h
    · cases h
    · rename_i vr hvr
      split at h
      · rename_i hv
        cases h
        have hnl : nn.toNat < c.now.length := by rw [hc.now]; omega
        have hj : c.now[nn.toNat]? = some (c.now.getD nn.toNat 0) := by rw [List.getD_eq_getElem?_getD, List.getElem?_eq_getElem hnl]; rfl
        obtain ⟨k, hk1⟩ : ∃ k, c.stk.length = k + 1 := ⟨c.stk.length - 1, by omega⟩
        have hka := stk_get hst (j := k) (by omega)
        simp only [hk1, Nat.add_sub_cancel] at hv hid ⊢
        refine ⟨stk, hs, stk_take hst _ (by omega), ?_⟩
        have := step_store_ok vs is vs.length i0 i1 i2 i3 stk hs c.at' s id k nn.toNat _ _ rel vr hka hvr b1 b2 H0 hid hb0' c.now hc.now hix hne hj hv
        rw [Int.toNat_of_nonneg hok.2.1] at this
        refine ar_eq this ?_
        simp [mO, rO, hk1]
      · cases h
  by_cases h12 : op = 12
  · subst h12
    simp only [Int.reduceEq, if_false, if_true] at h
    simp [takes, puts] at hok htk hpt
    cases h
    obtain ⟨k, hk1⟩ : ∃ k, c.stk.length = k + 1 + 1 := ⟨c.stk.length - 2, by omega⟩
    have hka := stk_get hst (j := k) (by omega)
    have hkb := stk_get hst (j := k + 1) (by omega)
    simp only [hk1] at hid
    simp only [hk1, show k + 1 + 1 - 2 = k by omega, show k + 1 + 1 - 1 = k + 1 by omega]
    refine ⟨stk, hs, stk_take hst _ (by omega), ?_⟩
    cases hh : holdsS (c.stk.getD k 0) rel (c.stk.getD (k + 1) 0) with
    | true =>
      refine ar_eq (step_unless_true vs is vs.length i0 i1 i2 i3 stk hs c.at' s id k _ _ nn rel (by omega) hka hkb b1 b2 H0 hid hb0' hh) ?_
      rw [set_row hix hne]; simp [mO, hk1, show min k (k + 1 + 1) = k by omega]
    | false =>
      refine ar_eq (step_unless_false vs is vs.length i0 i1 i2 i3 stk hs c.at' s id k _ _ nn rel (by omega) hka hkb b1 b2 H0 hid hb0' hh) ?_
      rw [set_row hix hne]; simp [mO, hk1, show min k (k + 1 + 1) = k by omega, Int.toNat_of_nonneg (show 0 ≤ nn by omega)]
  by_cases h13 : op = 13
  · subst h13
    simp only [Int.reduceEq, if_false, if_true] at h
    simp [takes, puts] at hok htk hpt
    cases h
    refine ⟨stk, hs, hst, ?_⟩
    refine ar_eq (step_goto vs is vs.length i0 i1 i2 i3 stk hs c.at' s id c.stk.length nn rel b1 b2 H0 hid hb0') ?_
    rw [set_row hix hne]; simp [mO, Int.toNat_of_nonneg (show 0 ≤ nn by omega)]
  have hop' : 4 ≤ op ∧ op ≤ 10 := by omega
  rw [if_neg h1, if_neg h2, if_neg h3, if_neg h11, if_neg h12, if_neg h13] at h
  have ht : takes op = 2 := by unfold takes; rw [if_neg (by omega), if_neg h11]
  rw [ht] at htk
  obtain ⟨k, hk1⟩ : ∃ k, c.stk.length = k + 1 + 1 := ⟨c.stk.length - 2, by omega⟩
  have hka := stk_get hst (j := k) (by omega)
  have hkb := stk_get hst (j := k + 1) (by omega)
  simp only [hk1] at hid
  simp only [hk1, show k + 1 + 1 - 2 = k by omega, show k + 1 + 1 - 1 = k + 1 by omega] at h
  have ma := hc.stkV _ (getD_mem (l := c.stk) (k := k) (by omega))
  have mb := hc.stkV _ (getD_mem (l := c.stk) (k := k + 1) (by omega))
  split at h
  · rename_i v hv
    cases h
    refine ⟨stk.set k v, by simp [hs], ?_, ?_⟩
    · have := stk_push (stk := stk) (s := c.stk.take k) (stk_take hst k (by omega)) (by rw [List.length_take]; omega) v
      rw [List.length_take, hk1, Nat.min_eq_left (by omega)] at this
      exact this
    · refine ar_eq (step_calc_ok vs is vs.length i0 i1 i2 i3 stk hs c.at' s id k op _ _ v nn rel hop' hv hka hkb ma mb b1 b2 H0 hid hb0') ?_
      rw [set_row hix hne]; simp [mO, hk1, show min k (k + 1 + 1) = k by omega]
  · cases h
theorem mstep_err {len : Int} {e : Int} {c : Cf} {x : Ins} (h : stepS vs i0 i1 i2 i3 x c = .error e) (hc : CfOk vs c) (ha : At vs len x c) (stk : List Int) (hs : stk.length = 64) (hst : stk.take c.stk.length = c.stk) (s : Nat) (hl : c.at' < 5000) (hs2 : s < 5000)
    (H0 : List AObj) (hid : H0[id]? = some (mO vs is i0 i1 i2 i3 stk c.stk.length c.at' s)) (hb0' : is < H0.length) (hix : H0[is]? = some (rO c.now)) (hne : id ≠ is) :
    ∃ h' a', ARun Tryd.prog 29 [.p id 0, .agg [.i x.op, .i x.n, .i x.rel]] H0 (.ret (.i e) (H0.set id (mO vs is i0 i1 i2 i3 stk h' a' (s + 1)))) := by
  obtain ⟨op, nn, rel⟩ := x
  have hok := ha.ok
  have htk := ha.tk
  have hop := insOk_op hok
  have b1 : ((c.at' : Nat) : Int) + 1 < 100000 ∧ (0 : Int) ≤ (c.at' : Nat) := by omega
  have b2 : ((s : Nat) : Int) + 1 < 100000 ∧ (0 : Int) ≤ (s : Nat) := by omega
  simp only at hok htk hop ⊢
  unfold insOk at hok
  unfold stepS at h
  simp only at hok h
  by_cases h1 : op = 1
  · subst h1; simp only [if_true] at h; cases h
  by_cases h2 : op = 2
  · subst h2; simp only [Int.reduceEq, if_false, if_true] at h; cases h
  by_cases h3 : op = 3
  · subst h3; simp only [Int.reduceEq, if_false, if_true] at h; cases h
  by_cases h11 : op = 11
  · subst h11
    simp only [Int.reduceEq, if_false, if_true] at h
    simp [takes, puts] at hok htk
    have hnl : nn.toNat < c.now.length := by rw [hc.now]; omega
    have hnv : nn.toNat < vs.length := by omega
    split at h
    · rename_i hvr
      rw [List.getElem?_eq_none_iff] at hvr; omega
    · rename_i vr hvr
      split at h
      · cases h
      · rename_i hv
        cases h
        have hj : c.now[nn.toNat]? = some (c.now.getD nn.toNat 0) := by rw [List.getD_eq_getElem?_getD, List.getElem?_eq_getElem hnl]; rfl
        obtain ⟨k, hk1⟩ : ∃ k, c.stk.length = k + 1 := ⟨c.stk.length - 1, by omega⟩
        have hka := stk_get hst (j := k) (by omega)
        simp only [hk1, Nat.add_sub_cancel] at hv hid ⊢
        have := step_store_bad vs is vs.length i0 i1 i2 i3 stk hs c.at' s id k nn.toNat _ _ rel vr hka hvr b1 b2 H0 hid hb0' c.now hc.now hix hne hj hv
        rw [Int.toNat_of_nonneg hok.2.1] at this
        exact ⟨k, c.at' + 1, ar_eq this (by simp [mO])⟩
  by_cases h12 : op = 12
  · subst h12; simp only [Int.reduceEq, if_false, if_true] at h; cases h
  by_cases h13 : op = 13
  · subst h13; simp only [Int.reduceEq, if_false, if_true] at h; cases h
  have hop' : 4 ≤ op ∧ op ≤ 10 := by omega
  rw [if_neg h1, if_neg h2, if_neg h3, if_neg h11, if_neg h12, if_neg h13] at h
  have ht : takes op = 2 := by unfold takes; rw [if_neg (by omega), if_neg h11]
  rw [ht] at htk
  obtain ⟨k, hk1⟩ : ∃ k, c.stk.length = k + 1 + 1 := ⟨c.stk.length - 2, by omega⟩
  have hka := stk_get hst (j := k) (by omega)
  have hkb := stk_get hst (j := k + 1) (by omega)
  simp only [hk1] at hid
  simp only [hk1, show k + 1 + 1 - 2 = k by omega, show k + 1 + 1 - 1 = k + 1 by omega] at h
  have ma := hc.stkV _ (getD_mem (l := c.stk) (k := k) (by omega))
  have mb := hc.stkV _ (getD_mem (l := c.stk) (k := k + 1) (by omega))
  split at h
  · cases h
  · rename_i v hv
    cases h
    exact ⟨k, c.at' + 1, ar_eq (step_calc_err vs is vs.length i0 i1 i2 i3 stk hs c.at' s id k op _ _ _ nn rel hop' hv hka hkb ma mb b1 b2 H0 hid hb0') (by simp [mO])⟩
end
end Go.Proofs.YtimmncjdknlegaaDoor.Y

/- Rows of numbers of one's own. -/
set_option linter.unusedVariables false
set_option linter.unusedSectionVars false
namespace Go.Proofs.YtimmncjdknlegaaDoor.AL
variable [G : GTab]
theorem getEApp {a b : List Int} {k : Nat} (h : k < a.length) : (a ++ b)[k]? = some (a.getD k 0) := by
  rw [List.getElem?_append_left h, getEI h]
/-- A row of numbers of one's own, lowered. -/
theorem low_ints {H : List AObj} {m d id n : Nat} {t : TypeId} {now : List Int} (hid : H[id]? = some (.arr t 1 (now.map fun v => [AV.i v]))) (hm : m ≤ id) (hn : n = now.length) :
    AV.low H m (d + 1) (.os id 0 n n) = .pv (.rs 1 (now.map fun v => [PV.i v])) := by
  subst hn
  have e : (now.map fun v => [AV.i v]) = (now.map fun v => [PV.i v]).map fun r => r.map AV.pv := by simp [List.map_map, Function.comp_def]
  have := low_os_pvs (H := H) (m := m) (d := d) (id := id) (t := t) (sz := 1) (rows := now.map fun v => [PV.i v]) (by rw [hid, e]) hm
  simpa using this
/-- A cut row, and what stands behind the cut. -/
theorem row_put {k : Nat} {a b : List Int} {v : Int} (hk : k ≤ a.length) : ((a ++ b).map (fun v => [AV.i v])).take k ++ [AV.i v] :: ((a ++ b).map (fun v => [AV.i v])).drop (k + 1) = (a.take k ++ [v] ++ (a ++ b).drop (k + 1)).map fun v => [AV.i v] := by
  simp only [List.map_append, List.map_take, List.map_drop, List.map_cons, List.map_nil, List.append_assoc, List.singleton_append]
  rw [List.take_append_of_le_length (by simpa using hk)]
end Go.Proofs.YtimmncjdknlegaaDoor.AL
namespace Go.Proofs.YtimmncjdknlegaaDoor.AL
theorem cut_row {a b : List Int} {k : Nat} (h : k ≤ a.length) : a.take k ++ (a ++ b).drop k = a ++ b := by
  conv => rhs; rw [← List.take_append_drop k (a ++ b)]
  rw [List.take_append_of_le_length h]
end Go.Proofs.YtimmncjdknlegaaDoor.AL

/- Plain laws: the stack machine as a whole, continued. -/
set_option linter.unusedVariables false
namespace Go.Proofs.YtimmncjdknlegaaDoor.AL
theorem stOk_get : ∀ {vs : List Vr} {st : List Int} {k : Nat} {v : Vr} {n : Int}, stOk vs st = true → vs[k]? = some v → st[k]? = some n → -1000000000000 ≤ n ∧ n ≤ 1000000000000 ∧ v.low ≤ n ∧ n ≤ v.high
  | v :: vs, m :: ns, 0, _, _, h, hv, hn => by
    simp only [stOk, Bool.and_eq_true, decide_eq_true_eq] at h
    simp only [List.getElem?_cons_zero, Option.some.injEq] at hv hn
    subst hv; subst hn
    exact h.1
  | v :: vs, m :: ns, k + 1, _, _, h, hv, hn => by
    simp only [stOk, Bool.and_eq_true, decide_eq_true_eq] at h
    simp only [List.getElem?_cons_succ] at hv hn
    exact stOk_get h.2 hv hn
  | [], _, k, _, _, _, hv, _ => by simp at hv
  | _ :: _, [], k, _, _, _, _, hn => by simp at hn
end Go.Proofs.YtimmncjdknlegaaDoor.AL
namespace Go.Proofs.YtimmncjdknlegaaDoor.AL
theorem stepS_ne {vs : List Vr} {i0 i1 i2 i3 : Int} {x : Ins} {c : Cf} {e : Int} (h : stepS vs i0 i1 i2 i3 x c = .error e) : e ≠ 0 := by
  unfold stepS at h
  repeat' split at h
  all_goals first | (cases h; done) | (cases h; decide) | skip
  · rename_i hc
    cases h
    rcases calcS_err hc with h | h <;> omega
theorem trace_ne {vs : List Vr} {i0 i1 i2 i3 : Int} {l : List Ins} : ∀ {f : Nat} {c : Cf} {n : Nat} {e : Int}, (traceS vs i0 i1 i2 i3 l f c n).1 = .error e → e ≠ 0
  | 0, c, n, e, h => by simp [traceS] at h
  | f + 1, c, n, e, h => by
    simp only [traceS] at h
    split at h
    · simp at h
    · split at h
      · rename_i e' he
        simp only [Except.error.injEq] at h
        subst h
        exact stepS_ne he
      · exact trace_ne h
end Go.Proofs.YtimmncjdknlegaaDoor.AL
namespace Go.Proofs.YtimmncjdknlegaaDoor.AL
theorem stepS_len {vs : List Vr} {i0 i1 i2 i3 : Int} {x : Ins} {c c' : Cf} (h : stepS vs i0 i1 i2 i3 x c = .ok c') : c'.now.length = c.now.length := by
  unfold stepS at h
  repeat' split at h
  all_goals first | (cases h; done) | (cases h; rfl) | (cases h; simp) | skip
theorem trace_len {vs : List Vr} {i0 i1 i2 i3 : Int} {l : List Ins} : ∀ {f : Nat} {c : Cf} {n : Nat} {s : List Int}, (traceS vs i0 i1 i2 i3 l f c n).1 = .ok s → s.length = c.now.length
  | 0, c, n, s, h => by simp only [traceS, Except.ok.injEq] at h; rw [h]
  | f + 1, c, n, s, h => by
    simp only [traceS] at h
    split at h
    · simp only [Except.ok.injEq] at h; rw [h]
    · split at h
      · cases h
      · rename_i c' hc
        rw [trace_len h, stepS_len hc]
theorem refRun_len (vs : List Vr) (c : Cod) (st : List Int) (x : Cal) : (runL (refRunS vs c st x)).length ≤ st.length := by
  unfold refRunS
  split
  · cases h : (runS vs c st x).1 with
    | ok s => have := trace_len h; simp only [runL]; simp only at this; omega
    | error e => simp [runL]
  · simp [runL]
end Go.Proofs.YtimmncjdknlegaaDoor.AL

set_option maxHeartbeats 8000000
set_option maxRecDepth 100000
set_option linter.unusedVariables false
set_option linter.unusedSimpArgs false
set_option linter.unusedSectionVars false
namespace Go.Proofs.YtimmncjdknlegaaDoor.Y
open Go.Proofs.YtimmncjdknlegaaDoor.AL Go.Proofs Go
attribute [local irreducible] AWP AWL AWG AWR AWE AWX AWO AWSeq AWSG AWSR AWSO AWSE AWSF GoodP OGW OGR OGE OGX PGW PGR PGE Wk AWLoop AWPD AWLD
theorem dr22_6_X11h : Drawn Tryd.prog 6 (regOps 6 ((Tryd.f22.body).getD .skip)) [7, 8] [] [.win [0, 1], .win [0, 1], .win [0, 1], .win [0, 1], .win [0, 1], .win [0, 1], .win [0], .eff 0, .eff 1, .win [2]] 2 [] := ⟨rfl, by as_aux_lemma => kernel_rfl⟩
theorem dr22_12_X11h : Drawn Tryd.prog 12 (regOps 12 ((Tryd.f22.body).getD .skip)) [10, 11] [] [.win [0, 1], .win [0, 1], .win [0, 1], .win [0, 1], .win [0, 1], .win [0, 1], .win [0], .win [0], .win [0], .win [0], .eff 0, .eff 1, .win [2]] 2 [] := ⟨rfl, by as_aux_lemma => kernel_rfl⟩
theorem dr22_15_X11h : Drawn Tryd.prog 15 (regOps 15 ((Tryd.f22.body).getD .skip)) [1, 3, 7] [] [.win [0, 1, 2], .eff 0, .win [0, 1], .eff 1, .win [0, 1, 2], .win [0, 1, 2], .win [2], .eff 2, .win [3]] 3 [] := ⟨rfl, by as_aux_lemma => kernel_rfl⟩

def mcP (vs : List Vr) (now : List Int) (i0 i1 i2 i3 : Int) (stk : List Int) (h at' st : Int) : List PV :=
  .rs 5 (vs.map encV) :: .rs 1 (rI now) :: .i i0 :: .i i1 :: .i i2 :: .i i3 :: (stk.map PV.i ++ [.i h, .i at', .i st])
theorem mcP_drop {vs : List Vr} {now : List Int} {i0 i1 i2 i3 : Int} {stk : List Int} {h at' st : Int} (hs : stk.length = 64) : (mcP vs now i0 i1 i2 i3 stk h at' st).drop 72 = [.i st] := by
  simp only [mcP, List.drop_succ_cons]
  rw [List.drop_append, List.drop_eq_nil_of_le (by simp [hs])]
  simp [hs]
theorem toPVr_app {H : List AObj} {m d : Nat} : ∀ (a b : List AV) (x y : List PV), AV.toPVr H m d a = some x → AV.toPVr H m d b = some y → AV.toPVr H m d (a ++ b) = some (x ++ y)
  | [], b, x, y, h, k => by simp only [AV.toPVr, Option.some.injEq] at h; subst h; simpa using k
  | a :: l, b, x, y, h, k => by
    simp only [AV.toPVr] at h
    split at h
    · rename_i p ps h1 h2
      simp only [Option.some.injEq] at h; subst h
      simp only [List.cons_append, AV.toPVr, h1, toPVr_app l b ps y h2 k]
    · cases h
theorem toPVr_ints {H : List AObj} {m d : Nat} : ∀ (a : List Int), AV.toPVr H m d (a.map AV.i) = some (a.map PV.i)
  | [] => by simp only [List.map_nil, AV.toPVr]
  | x :: l => by simp only [List.map_cons, AV.toPVr, AV.toPV, toPVr_ints l]
theorem toPV_pv {H : List AObj} {m d : Nat} {p : PV} : AV.toPV H m d (.pv p) = some p := by cases d <;> simp only [AV.toPV]
theorem low_mc {H : List AObj} {m id is : Nat} {vs : List Vr} {now : List Int} {i0 i1 i2 i3 : Int} {stk : List Int} {h a s : Nat} (hid : H[id]? = some (mO vs is i0 i1 i2 i3 stk h a s)) (his : H[is]? = some (rO now)) (h1 : m ≤ id) (h2 : m ≤ is) (hn : now.length = vs.length) :
    AV.low H m 2 (.p id 0) = .rp (mcP vs now i0 i1 i2 i3 stk h a s) := by
  have e : (now.map fun v => [AV.i v]) = (now.map fun v => [PV.i v]).map fun r => r.map AV.pv := by simp [List.map_map, Function.comp_def]
  have hrow : AV.toPV H m 2 (.os is 0 vs.length vs.length) = some (.rs 1 (rI now)) := by
    simp only [AV.toPV, his, List.length_map, hn, h2, and_self, if_true, List.drop_zero]
    rw [List.take_of_length_le (by simp [hn]), e, toPVs_pvs]
    rfl
  simp only [AV.low, if_neg (Nat.not_lt.2 h1), hid]
  have : AV.toPVr H m 2 (mc vs is vs.length i0 i1 i2 i3 stk h a s) = some (mcP vs now i0 i1 i2 i3 stk h a s) := by
    have ht := toPVr_app (H := H) (m := m) (d := 2) (stk.map AV.i) [.i h, .i a, .i s] _ _ (toPVr_ints stk) (by simp only [AV.toPVr, toPV_pv]; rfl)
    simp only [mc, mcP, AV.toPVr, toPV_pv, hrow, ht]
  rw [this]
  rfl
structure MEnd where
  now : List Int
  stk : List Int
  h : Nat
  a : Nat
  n : Nat
  e : Int
theorem mloop (vs : List Vr) (l : List Ins) (st : List Int) (i0 i1 i2 i3 : Int) (ht : Nat → Int) (hc : Cert l vs.length ht) (hi : ∀ j, isV (inS i0 i1 i2 i3 j)) (ca cb : AObj) (hca : ∀ m, ca.under m) (hcb : ∀ m, cb.under m) (H0 : List AObj) (c : Code) (hcode : c = cpath [1, 0, 1, 1, 1, 1, 1, 1, 1, 0, 0, 0] ((Tryd.f22.body).getD .skip)) :
    ∀ s : Cf × List Int × Nat, (TInv vs i0 i1 i2 i3 l ht st s.1 s.2.2 ∧ s.2.1.length = 64 ∧ s.2.1.take s.1.stk.length = s.1.stk) →
      ∃ f : MEnd, (f.stk.length = 64 ∧ f.now.length = vs.length ∧ (∀ s', (traceS vs i0 i1 i2 i3 l (l.length + 1) ⟨st, [], 0⟩ 0).1 = .ok s' → f.now = s') ∧ f.n = (traceS vs i0 i1 i2 i3 l (l.length + 1) ⟨st, [], 0⟩ 0).2 ∧ f.e = runE (traceS vs i0 i1 i2 i3 l (l.length + 1) ⟨st, [], 0⟩ 0).1) ∧
        ∀ Q : AEx → List AV → List AObj → Prop, (∀ tm H, Wk H0 tm H ((.any :: .any :: .any :: .any :: .any :: .any :: .any :: .any :: .any :: .any :: .any :: .any :: .any :: .any :: .p (H0.length + 3) 0 :: .any :: .i f.e :: .any :: .any :: .any :: .any :: .any :: .any :: .any :: .any :: .any :: .any :: .any :: .any :: .any :: .any :: .any :: .any :: .any :: .any :: .any :: .any :: .any :: .any :: .any :: .any :: .any :: .any :: .any :: .any :: .any :: .any :: .any :: .any :: .any :: .any :: .any :: .any :: .any :: .any :: .any :: .any :: .any :: .any :: .any :: .any :: .any :: .any :: .any :: .any :: .any :: .any :: .any :: .any :: .any :: .any :: .any :: .any :: .any :: .any :: .any :: .any :: .any :: .any :: .any :: .any :: .any :: .any :: .any :: .any :: .any :: .any :: .any :: .any :: .any :: .any :: .any :: .any :: .any :: .any :: .any :: .any :: .any :: .any :: .any :: .any :: .any :: .any :: .any :: .any :: .any :: .any :: [])) (H0 ++ [ca, cb, rO f.now, mO vs (H0.length + 2) i0 i1 i2 i3 f.stk f.h f.a f.n]) → Q (.exit 4) tm H) →
          AWP Tryd.prog H0 (.loop c) Q ((.any :: .any :: .any :: .any :: .any :: .any :: .any :: .any :: .any :: .any :: .any :: .any :: .any :: .any :: .p (H0.length + 3) 0 :: .rs 3 (l.map encI) :: .i 0 :: .any :: .any :: .any :: .any :: .any :: .any :: .any :: .any :: .any :: .any :: .any :: .any :: .any :: .any :: .any :: .any :: .any :: .any :: .any :: .any :: .any :: .any :: .any :: .any :: .any :: .any :: .any :: .any :: .any :: .any :: .any :: .any :: .any :: .any :: .any :: .any :: .any :: .any :: .any :: .any :: .any :: .any :: .any :: .any :: .any :: .any :: .any :: .any :: .any :: .any :: .any :: .any :: .any :: .any :: .any :: .any :: .any :: .any :: .any :: .any :: .any :: .any :: .any :: .any :: .any :: .any :: .any :: .any :: .any :: .any :: .any :: .any :: .any :: .any :: .any :: .any :: .any :: .any :: .any :: .any :: .any :: .any :: .any :: .any :: .any :: .any :: .any :: .any :: .any :: .any :: [])) (H0 ++ [ca, cb, rO s.1.now, mO vs (H0.length + 2) i0 i1 i2 i3 s.2.1 s.1.stk.length s.1.at' s.2.2]) := by
  have hl := hc.len
  refine awp_loop_ex (σ := Cf × List Int × Nat) (fun s => l.length - s.1.at') _ (fun s => (.any :: .any :: .any :: .any :: .any :: .any :: .any :: .any :: .any :: .any :: .any :: .any :: .any :: .any :: .p (H0.length + 3) 0 :: .rs 3 (l.map encI) :: .i 0 :: .any :: .any :: .any :: .any :: .any :: .any :: .any :: .any :: .any :: .any :: .any :: .any :: .any :: .any :: .any :: .any :: .any :: .any :: .any :: .any :: .any :: .any :: .any :: .any :: .any :: .any :: .any :: .any :: .any :: .any :: .any :: .any :: .any :: .any :: .any :: .any :: .any :: .any :: .any :: .any :: .any :: .any :: .any :: .any :: .any :: .any :: .any :: .any :: .any :: .any :: .any :: .any :: .any :: .any :: .any :: .any :: .any :: .any :: .any :: .any :: .any :: .any :: .any :: .any :: .any :: .any :: .any :: .any :: .any :: .any :: .any :: .any :: .any :: .any :: .any :: .any :: .any :: .any :: .any :: .any :: .any :: .any :: .any :: .any :: .any :: .any :: .any :: .any :: .any :: .any :: [])) (fun s => H0 ++ [ca, cb, rO s.1.now, mO vs (H0.length + 2) i0 i1 i2 i3 s.2.1 s.1.stk.length s.1.at' s.2.2])
    (fun _ (f : MEnd) => f.stk.length = 64 ∧ f.now.length = vs.length ∧ (∀ s', (traceS vs i0 i1 i2 i3 l (l.length + 1) ⟨st, [], 0⟩ 0).1 = .ok s' → f.now = s') ∧ f.n = (traceS vs i0 i1 i2 i3 l (l.length + 1) ⟨st, [], 0⟩ 0).2 ∧ f.e = runE (traceS vs i0 i1 i2 i3 l (l.length + 1) ⟨st, [], 0⟩ 0).1)
    (.exit 4) (by simp) (fun (f : MEnd) => (.any :: .any :: .any :: .any :: .any :: .any :: .any :: .any :: .any :: .any :: .any :: .any :: .any :: .any :: .p (H0.length + 3) 0 :: .any :: .i f.e :: .any :: .any :: .any :: .any :: .any :: .any :: .any :: .any :: .any :: .any :: .any :: .any :: .any :: .any :: .any :: .any :: .any :: .any :: .any :: .any :: .any :: .any :: .any :: .any :: .any :: .any :: .any :: .any :: .any :: .any :: .any :: .any :: .any :: .any :: .any :: .any :: .any :: .any :: .any :: .any :: .any :: .any :: .any :: .any :: .any :: .any :: .any :: .any :: .any :: .any :: .any :: .any :: .any :: .any :: .any :: .any :: .any :: .any :: .any :: .any :: .any :: .any :: .any :: .any :: .any :: .any :: .any :: .any :: .any :: .any :: .any :: .any :: .any :: .any :: .any :: .any :: .any :: .any :: .any :: .any :: .any :: .any :: .any :: .any :: .any :: .any :: .any :: .any :: .any :: .any :: [])) (fun (f : MEnd) => H0 ++ [ca, cb, rO f.now, mO vs (H0.length + 2) i0 i1 i2 i3 f.stk f.h f.a f.n]) ?_
  rintro ⟨⟨now, stk, at'⟩, stk64, n⟩ ⟨t, hs, htk⟩
  simp only at t hs htk ⊢
  have hnow := t.ok.now
  have hle := t.le
  have hnle := t.nle
  simp only at hnow hle hnle
  subst hcode
  dsimp only [Tryd.f22, cpath, Option.getD_some]
  cases hx : l[at']? with
  | none =>
    refine .inr ⟨⟨now, stk64, stk.length, at', n, 0⟩, ⟨hs, hnow, ?_, ?_, ?_⟩, ?_⟩
    · intro s' e; rw [t.stop hx] at e; exact Except.ok.inj e
    · rw [t.stop hx]
    · rw [t.stop hx]; rfl
    have hge : l.length ≤ at' := List.getElem?_eq_none_iff.1 hx
    (have rr1 := dr22_6_X11h; have rr2 := dr22_12_X11h; have rr3 := dr22_15_X11h; have ww1 := @mc_len; have ww2 := hs; have ww3 := @mc_at; refine wkO ?_; clear rr1 rr2 rr3 ww1 ww2 ww3; (repeat' first | exact True.intro | refine Lf.mk ?_ ?_); all_goals intro hP)
    exact Wk.fgt (by (refine fgX ?_; try exact True.intro))
  | some x =>
    have hlt := (List.getElem?_eq_some_iff.1 hx).1
    have hA := cert_At hc hx t.ht
    cases hst : stepS vs i0 i1 i2 i3 x ⟨now, stk, at'⟩ with
    | ok c' =>
      obtain ⟨t', hm⟩ := TInv.next hc hi t hx hst
      obtain ⟨stk', q1, q2, harun⟩ := mstep_ok vs i0 i1 i2 i3 (H0.length + 2) (H0.length + 3) hst t.ok hA hi stk64 hs htk n (by omega) (by omega) (H0 ++ [ca, cb, rO now, mO vs (H0.length + 2) i0 i1 i2 i3 stk64 stk.length at' n])
        (by simp only [getOk, List.getElem?_cons_succ, List.getElem?_cons_zero]) (by simp) (by simp only [getOk, List.getElem?_cons_succ, List.getElem?_cons_zero]) (by omega)
      refine .inl ⟨(c', stk', n + 1), hm, ⟨t', q1, q2⟩, fun _ h => h, ?_⟩
      obtain ⟨op, nn, rel⟩ := x
      have hx' : (l.map encI)[at']? = some (cI ⟨op, nn, rel⟩) := by rw [List.getElem?_map, hx]; rfl
      simp only at harun
      (have rr1 := dr22_6_X11h; have rr2 := dr22_12_X11h; have rr3 := dr22_15_X11h; have ww1 := @mc_len; have ww2 := hs; have ww3 := @mc_at; have ww4 := hx'; have cc1 := harun; refine wkO ?_; clear rr1 rr2 rr3 ww1 ww2 ww3 ww4 cc1; (repeat' first | exact True.intro | refine Lf.mk ?_ ?_); all_goals intro hP)
      exact Wk.fgt (by (refine fgX ?_; try exact True.intro))
    | error e =>
      obtain ⟨h', a', harun⟩ := mstep_err vs i0 i1 i2 i3 (H0.length + 2) (H0.length + 3) hst t.ok hA stk64 hs htk n (show at' < 5000 by omega) (by omega) (H0 ++ [ca, cb, rO now, mO vs (H0.length + 2) i0 i1 i2 i3 stk64 stk.length at' n])
        (by simp only [getOk, List.getElem?_cons_succ, List.getElem?_cons_zero]) (by simp) (by simp only [getOk, List.getElem?_cons_succ, List.getElem?_cons_zero]) (by omega)
      have hte := t.err hx hst
      have he := stepS_err hst hA
      refine .inr ⟨⟨now, stk64, h', a', n + 1, e⟩, ⟨hs, hnow, ?_, ?_, ?_⟩, ?_⟩
      · intro s' e'; rw [hte] at e'; cases e'
      · rw [hte]
      · rw [hte]; rfl
      obtain ⟨op, nn, rel⟩ := x
      have hx' : (l.map encI)[at']? = some (cI ⟨op, nn, rel⟩) := by rw [List.getElem?_map, hx]; rfl
      simp only at harun
      (have rr1 := dr22_6_X11h; have rr2 := dr22_12_X11h; have rr3 := dr22_15_X11h; have ww1 := @mc_len; have ww2 := hs; have ww3 := @mc_at; have ww4 := hx'; have cc1 := harun; refine wkO ?_; clear rr1 rr2 rr3 ww1 ww2 ww3 ww4 cc1; (repeat' first | exact True.intro | refine Lf.mk ?_ ?_); all_goals intro hP)
      exact Wk.fgt (by (refine fgX ?_; try exact True.intro))
section
variable (vs : List Vr) (c : Cod) (st : List Int) (x : Cal) (h1 : vs.length ≤ 2000000) (h2 : st.length ≤ 2000000) (hf : CodFine c) (H0 : List AObj)
include h1 h2 hf
theorem mrun_ok (hfit : fitsS vs c st x = true) :
    ∃ now stk h a, stk.length = 64 ∧ (∀ s, (runS vs c st x).1 = .ok s → now = s) ∧ ARun Tryd.prog 22 [.rs 5 (vs.map encV), agC c, .rs 1 (rI st), agL x] H0
      (.ret (.tup [.rp (mcP vs now x.i0 x.i1 x.i2 x.i3 stk h a (runS vs c st x).2), .i (runE (runS vs c st x).1)]) H0) := by
  obtain ⟨f1, f2, f3⟩ := fits_all hfit
  have hev := call_ev f3
  have hin := call_in f3
  have hlen := stOk_len f2
  have hg := hand_get (c := c) hev
  obtain ⟨e1, e2⟩ := hev
  obtain ⟨ht, hc⟩ := verH_cert (hand_ver f1 e1 e2)
  have hvl := verC_vars f1
  have hcl := hc.len
  have hok := of_decide_eq_true f3
  have g1 := fun H0 => CVerify_run c vs.length hf H0
  simp only [f1] at g1
  have gin := fun a b n H0 => in_run a b n H0
  have n0 := fun H0 => in_run 0 4 x.ev H0
  have n1 := fun H0 => in_run 1 1000 x.i0 H0
  have n2 := fun H0 => in_run 1 10000000 x.i1 H0
  have n3 := fun H0 => in_run 1 10000 x.i2 H0
  have n4 := fun H0 => in_run 0 4000 x.i3 H0
  obtain ⟨f, ⟨q1, q2, q3, q4, q5⟩, hloop⟩ := mloop vs (hand c x.ev) st x.i0 x.i1 x.i2 x.i3 ht hc hin (.cells 26 [.rs 3 (c.c0.map encI), .rs 3 (c.c1.map encI), .rs 3 (c.c2.map encI), .rs 3 (c.c3.map encI), .rs 3 (c.c4.map encI)]) (.cells 30 [.i x.ev, .i x.i0, .i x.i1, .i x.i2, .i x.i3])
    (by intro m c hc; simp only [List.mem_cons, List.not_mem_nil, or_false] at hc; rcases hc with rfl | rfl | rfl | rfl | rfl <;> simp only [AV.under]) (by intro m c hc; simp only [List.mem_cons, List.not_mem_nil, or_false] at hc; rcases hc with rfl | rfl | rfl | rfl | rfl <;> simp only [AV.under])
    H0 _ rfl (⟨st, [], 0⟩, List.replicate 64 0, 0) ⟨TInv.start hc f2, by simp, by simp⟩
  refine ⟨f.now, f.stk, f.h, f.a, q1, q3, ?_⟩
  (refine ARun.intro Tryd.func22 rfl Tryd.call22 Tryd.ntmps22 Tryd.results22 ?_; simp only [List.length_cons, List.length_nil, List.length_map, Nat.reduceAdd, Nat.reduceSub, List.replicate_succ, List.replicate_zero, List.cons_append, List.nil_append])
  (have rr1 := dr22_6_X11h; have rr2 := dr22_12_X11h; have rr3 := dr22_15_X11h; have ww1 := hlen; have cc1 := fun z1 => g1 z1; have dd1 := n0 []; have dd2 := n1 []; have dd3 := n2 []; have dd4 := n3 []; have dd5 := n4 []; refine wkO ?_; clear rr1 rr2 rr3 ww1 cc1 dd1 dd2 dd3 dd4 dd5; (repeat' first | exact True.intro | refine Lf.mk ?_ ?_); all_goals intro hP)
  refine awp_loop 5 ?_
  (have rr1 := dr22_6_X11h; have rr2 := dr22_12_X11h; have rr3 := dr22_15_X11h; have ww1 := hlen; have cc1 := fun z1 => g1 z1; have dd1 := n0 []; have dd2 := n1 []; have dd3 := n2 []; have dd4 := n3 []; have dd5 := n4 []; refine wkO ?_; clear rr1 rr2 rr3 ww1 cc1 dd1 dd2 dd3 dd4 dd5; (repeat' first | exact True.intro | refine Lf.mk ?_ ?_); all_goals intro hP)
  refine awp_loop_ind (σ := Nat) (fun k => vs.length - k) (fun k => k ≤ vs.length)
    (fun k => (.rs 5 (vs.map encV) :: .any :: .rs 1 (rI st) :: .any :: .any :: .p H0.length 0 :: .any :: .p (H0.length + 1) 0 :: .any :: .any :: .any :: .any :: .any :: .any :: .any :: .any :: .any :: .any :: .any :: .any :: .any :: .any :: .any :: .any :: .any :: .any :: .any :: .any :: .any :: .any :: .any :: .any :: .any :: .any :: .any :: .any :: .any :: .any :: .any :: .any :: .any :: .any :: .any :: .any :: .any :: .any :: .any :: .any :: .any :: .any :: .any :: .any :: .any :: .rs 5 (vs.map encV) :: .i vs.length :: .i k :: .any :: .any :: .any :: .any :: .any :: .any :: .any :: .any :: .any :: .any :: .any :: .any :: .any :: .any :: .any :: .any :: .any :: .any :: .any :: .any :: .any :: .any :: .any :: .any :: .any :: .any :: .any :: .any :: .any :: .any :: .any :: .any :: .any :: .any :: .any :: .any :: .any :: .any :: .any :: .any :: .any :: .any :: .any :: .any :: .any :: .any :: .any :: .any :: .any :: .any :: .any :: []))
    (fun k => H0 ++ [.cells 26 [.rs 3 (c.c0.map encI), .rs 3 (c.c1.map encI), .rs 3 (c.c2.map encI), .rs 3 (c.c3.map encI), .rs 3 (c.c4.map encI)], .cells 30 [.i x.ev, .i x.i0, .i x.i1, .i x.i2, .i x.i3]]) 0 (Nat.zero_le _) ?_ ?_
  · refine Wk.keepE 2 1 (by rfl) (by simp) (by intro o ho; simp only [List.mem_cons, List.not_mem_nil, or_false] at ho; rcases ho with rfl | rfl <;> (intro c hc; simp only [List.mem_cons, List.not_mem_nil, or_false] at hc; rcases hc with rfl | rfl | rfl | rfl | rfl <;> simp only [AV.under])) ?_
    simp only [List.map_cons, List.map_nil, AV.low, Fgt, if_true, true_or, or_true, and_true, true_and, Nat.lt_add_right_iff_pos, Nat.add_lt_add_iff_left, Nat.reduceLT, Int.natCast_zero, Int.cast_ofNat_Int]
  · intro k hk
    by_cases hkl : k = vs.length
    · subst hkl
      have hbig : (vs.length * 8 ≤ 140737488355328 ∧ vs.length ≤ 9223372036854775807) = True := by simp only [eq_iff_iff, iff_true]; omega
      (have rr1 := dr22_6_X11h; have rr2 := dr22_12_X11h; have rr3 := dr22_15_X11h; have ww1 := hlen; have ww2 := hg; have ww3 := e1; have ww4 := e2; have ww5 := hbig; refine wkO ?_; clear rr1 rr2 rr3 ww1 ww2 ww3 ww4 ww5; (repeat' first | exact True.intro | refine Lf.mk ?_ ?_); all_goals intro hP)
      refine awp_wk ?_ (hloop _ ?_)
      · refine Wk.fgtE ?_ (by (refine fgX ?_; try exact True.intro))
        simp [rO, mO, mc, List.map_map, Function.comp_def, List.replicate_succ]
      · intro tm H hw
        simp only [AEx.inBlock, AEx.thn, if_true]
        refine awp_wk hw ?_
        (have rr1 := dr22_6_X11h; have rr2 := dr22_12_X11h; have rr3 := dr22_15_X11h; refine wk ?_; clear rr1 rr2 rr3; (repeat' first | exact True.intro | refine Lf.mk ?_ ?_); all_goals intro hP)
        refine ⟨_, rfl, _, rfl, Fin.pureC 2 ?_⟩
        have e4 : (runS vs c st x).2 = f.n := q4.symm
        have e5 : runE (runS vs c st x).1 = f.e := q5.symm
        rw [e4, e5]
        simp only [aOne, aev, List.getElem?_cons_succ, List.getElem?_cons_zero, Option.getD_some]
        rw [AV.low, List.map_cons, List.map_cons, List.map_nil, low_mc (vs := vs) (now := f.now) (is := H0.length + 2) (i0 := x.i0) (i1 := x.i1) (i2 := x.i2) (i3 := x.i3) (stk := f.stk) (h := f.h) (a := f.a) (s := f.n) (by simp only [getOk, List.getElem?_cons_succ, List.getElem?_cons_zero]) (by simp only [getOk, List.getElem?_cons_succ, List.getElem?_cons_zero]) (by omega) (by omega) q2]
        exact Cv.of (by simp only [AV.low])
    · have hklt : k < vs.length := by omega
      have hklI : (k : Int) < vs.length := by omega
      have hvk := getEV hklt
      have hsk := getEI (l := st) (k := k) (by omega)
      have hbd := stOk_get f2 hvk hsk
      have hv' : (vs.map encV)[k]? = some (cV (vs.getD k dV)) := by rw [List.getElem?_map, hvk]; rfl
      have hs' : (rI st)[k]? = some [.i (st.getD k 0)] := by rw [List.getElem?_map, hsk]; rfl
      have hw : IntKind.i64.wrap ((k : Int) + 1) = ((k + 1 : Nat) : Int) := by rw [wrap_of (by omega) (by omega)]; omega
      have n5 := fun H0 => in_run (if (vs.getD k dV).low < -1000000000000 then -1000000000000 else (vs.getD k dV).low) (if 1000000000000 < (vs.getD k dV).high then 1000000000000 else (vs.getD k dV).high) (st.getD k 0) H0
      have b5 : (decide ((if (vs.getD k dV).low < -1000000000000 then -1000000000000 else (vs.getD k dV).low) ≤ st.getD k 0) && decide (st.getD k 0 ≤ (if 1000000000000 < (vs.getD k dV).high then 1000000000000 else (vs.getD k dV).high))) = true := by
        simp only [Bool.and_eq_true, decide_eq_true_eq]; constructor <;> split <;> omega
      simp only [b5] at n5
      (have rr1 := dr22_6_X11h; have rr2 := dr22_12_X11h; have rr3 := dr22_15_X11h; have ww1 := hlen; have ww2 := hklI; have ww3 := hvk; have ww4 := hsk; have ww5 := hv'; have ww6 := hs'; have ww7 := hw; have dd1 := n5 []; refine wk ?_; clear rr1 rr2 rr3 ww1 ww2 ww3 ww4 ww5 ww6 ww7 dd1; (repeat' first | exact True.intro | refine Lf.mk ?_ ?_); all_goals intro hP)
      refine ⟨k + 1, by omega, by omega, ?_⟩
      refine Wk.keepE 2 1 (by rfl) (by simp) (by intro o ho; simp only [List.mem_cons, List.not_mem_nil, or_false] at ho; rcases ho with rfl | rfl <;> (intro c hc; simp only [List.mem_cons, List.not_mem_nil, or_false] at hc; rcases hc with rfl | rfl | rfl | rfl | rfl <;> simp only [AV.under])) ?_
      simp only [List.map_cons, List.map_nil, AV.low, Fgt, if_true, true_or, or_true, and_true, true_and, Nat.lt_add_right_iff_pos, Nat.add_lt_add_iff_left, Nat.reduceLT]
end
end Go.Proofs.YtimmncjdknlegaaDoor.Y
