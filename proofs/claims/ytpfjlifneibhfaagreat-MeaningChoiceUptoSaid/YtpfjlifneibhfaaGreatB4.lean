/- Part 4 of the proofs of seat YtpfjlifneibhfaaGreat: what the texts behind it lean on (abstract memory, walks of functions, plain laws). -/
import Derived.Test.YtpfjlifneibhfaaGreatB3
import Derived.WideLaws
set_option linter.unusedSectionVars false
set_option linter.unusedSimpArgs false
set_option linter.unusedVariables false
set_option maxHeartbeats 100000000
set_option maxRecDepth 100000
namespace Go.Proofs.YtpfjlifneibhfaaGreat.Y
open Go.Proofs.YtpfjlifneibhfaaGreat.AL Go.Proofs Go
attribute [local irreducible] AWP AWL AWG AWR AWE AWX AWO AWSeq AWSG AWSR AWSO AWSE AWSF GoodP OGW OGR OGE OGX PGW PGR PGE Wk AWLoop AWPD AWLD
theorem eqg70 : Tryz.prog.eqGuardType Tryz.prog.depth 111 = false := by kernel_rfl
theorem eqg34 : Tryz.prog.eqGuardType Tryz.prog.depth 119 = false := by kernel_rfl
theorem eqs34 : eqStruct Tryz.prog 119 = true := by kernel_rfl
theorem eqU (a b : Un) : (a.p == b.p && (a.b == b.b && a.t == b.t)) = decide (a = b) := by
  obtain ⟨a1, a2, a3⟩ := a
  obtain ⟨b1, b2, b3⟩ := b
  simp only [Un.mk.injEq, Bool.decide_and]
  rfl
/-- The answer of 'of'. -/
def ofAns (k : Int) : AV := match ofK k with
  | some u => .tup [.ag (cU u), .b true]
  | none => .tup [.ag [.i 0, .i 0, .i 0], .b false]
theorem of_run (n : Int) (H0 : List AObj) : ARun Tryz.prog 87 [.i n] H0 (.ret (ofAns n) H0) := by
  by_cases h : 0 ≤ n ∧ n ≤ 4
  · have hc : n = 0 ∨ n = 1 ∨ n = 2 ∨ n = 3 ∨ n = 4 := by omega
    rcases hc with rfl | rfl | rfl | rfl | rfl
    all_goals
      clear h
      (refine ARun.intro Tryz.func87 rfl Tryz.call87 Tryz.ntmps87 Tryz.results87 ?_; simp only [List.length_cons, List.length_nil, List.length_map, Nat.reduceAdd, Nat.reduceSub, List.replicate_succ, List.replicate_zero, List.cons_append, List.nil_append])
      repeat' (first | refine awp_seq ?_ | refine awp_block ?_ | refine awp_scope ?_ | ((first | refine awp_region_k fun Kn Kp hn hp => ?_ | refine oge_intro (by assumption) ?_) <;> (simp only [go_sem, Nat.reduceAdd, Nat.reduceSub, Nat.reduceMul, Nat.reduceLeDiff, Nat.reduceLT, Nat.reduceEqDiff, Int.reduceToNat, Int.reduceAdd, Int.reduceMul, Int.reduceSub, Int.reduceLT, Int.reduceLE, Int.reduceEq, Int.reduceNeg, Int.reduceBEq, Int.reduceBNe, ↓reduceIte, reduceCtorEq] <;> try simp (disch := omega) only [wrap_of])) | (refine hn _ _ ?_; clear hn hp Kn Kp) | (refine hp _ _ _ ?_; clear hn hp Kn Kp) | (refine awp_cond rfl (fun hb => ?_) (fun hb => ?_) <;> (try simp only [decide_eq_true_eq, decide_eq_false_iff_not, Bool.not_eq_true', Bool.not_eq_false', Bool.true_eq_false, Bool.false_eq_true, beq_iff_eq, bne_iff_ne, bne_eq_false_iff_eq, beq_eq_false_iff_ne, gt_iff_lt, ge_iff_le, Int.reduceEq, Int.reduceNe, Int.reduceLT, Int.reduceLE, ne_eq, not_true_eq_false, not_false_eq_true] at hb)) | ((first | refine awg_split (fun hb => ?_) (fun hb => ?_) | refine awsg_split (fun hb => ?_) (fun hb => ?_)) <;> have hb0 := hb <;> (try simp only [decide_eq_true_eq, decide_eq_false_iff_not, Bool.not_eq_true', Bool.not_eq_false', Bool.true_eq_false, Bool.false_eq_true, beq_iff_eq, bne_iff_ne, bne_eq_false_iff_eq, beq_eq_false_iff_ne, gt_iff_lt, ge_iff_le, Int.reduceEq, Int.reduceNe, Int.reduceLT, Int.reduceLE, ne_eq, not_true_eq_false, not_false_eq_true] at hb0) <;> (try simp only [beq_true, beq_false, Bool.not_eq_true', Bool.not_eq_false'] at hb) <;> (simp only [go_sem, Nat.reduceAdd, Nat.reduceSub, Nat.reduceMul, Nat.reduceLeDiff, Nat.reduceLT, Nat.reduceEqDiff, Int.reduceToNat, Int.reduceAdd, Int.reduceMul, Int.reduceSub, Int.reduceLT, Int.reduceLE, Int.reduceEq, Int.reduceNeg, Int.reduceBEq, Int.reduceBNe, ↓reduceIte, reduceCtorEq, hb, hb0] <;> try simp (disch := omega) only [wrap_of])) | (refine And.intro ?_ ?_) | refine awp_skip ?_ | refine awp_ret ?_ | refine awp_exit ?_ | refine awp_label ?_ | refine awloop_step ?_ | fail)
      ((try simp only [go_sem, Nat.reduceAdd, Nat.reduceSub, Nat.reduceMul, Nat.reduceLeDiff, Nat.reduceLT, Nat.reduceEqDiff, Int.reduceToNat, Int.reduceAdd, Int.reduceMul, Int.reduceSub, Int.reduceLT, Int.reduceLE, Int.reduceEq, Int.reduceNeg, Int.reduceBEq, Int.reduceBNe, ↓reduceIte, reduceCtorEq]); (first | refine ⟨_, rfl, _, rfl, Fin.pure0 0 ?_⟩ | refine ⟨_, rfl, _, rfl, Fin.pure 1 ?_⟩); simp only [AV.low, List.map_cons, List.map_nil, aOne, aev, List.getElem?_cons_zero, List.getElem?_cons_succ, Option.getD_some, List.length_append, List.length_cons, List.length_nil, Nat.lt_irrefl, if_false]; try rfl)
      all_goals simp [AV.low, ofAns, ofK]
  · (refine ARun.intro Tryz.func87 rfl Tryz.call87 Tryz.ntmps87 Tryz.results87 ?_; simp only [List.length_cons, List.length_nil, List.length_map, Nat.reduceAdd, Nat.reduceSub, List.replicate_succ, List.replicate_zero, List.cons_append, List.nil_append])
    have hn : ofK n = none := by
      cases hx : ofK n with
      | none => rfl
      | some u => exact absurd (ofK_range.1 (by rw [hx]; rfl)) h
    repeat' (first | refine awp_seq ?_ | refine awp_block ?_ | refine awp_scope ?_ | ((first | refine awp_region_k fun Kn Kp hn hp => ?_ | refine oge_intro (by assumption) ?_) <;> (simp only [go_sem, Nat.reduceAdd, Nat.reduceSub, Nat.reduceMul, Nat.reduceLeDiff, Nat.reduceLT, Nat.reduceEqDiff, Int.reduceToNat, Int.reduceAdd, Int.reduceMul, Int.reduceSub, Int.reduceLT, Int.reduceLE, Int.reduceEq, Int.reduceNeg, Int.reduceBEq, Int.reduceBNe, ↓reduceIte, reduceCtorEq] <;> try simp (disch := omega) only [wrap_of])) | (refine hn _ _ ?_; clear hn hp Kn Kp) | (refine hp _ _ _ ?_; clear hn hp Kn Kp) | (refine awp_cond rfl (fun hb => ?_) (fun hb => ?_) <;> (try simp only [decide_eq_true_eq, decide_eq_false_iff_not, Bool.not_eq_true', Bool.not_eq_false', Bool.true_eq_false, Bool.false_eq_true, beq_iff_eq, bne_iff_ne, bne_eq_false_iff_eq, beq_eq_false_iff_ne, gt_iff_lt, ge_iff_le, Int.reduceEq, Int.reduceNe, Int.reduceLT, Int.reduceLE, ne_eq, not_true_eq_false, not_false_eq_true] at hb)) | ((first | refine awg_split (fun hb => ?_) (fun hb => ?_) | refine awsg_split (fun hb => ?_) (fun hb => ?_)) <;> have hb0 := hb <;> (try simp only [decide_eq_true_eq, decide_eq_false_iff_not, Bool.not_eq_true', Bool.not_eq_false', Bool.true_eq_false, Bool.false_eq_true, beq_iff_eq, bne_iff_ne, bne_eq_false_iff_eq, beq_eq_false_iff_ne, gt_iff_lt, ge_iff_le, Int.reduceEq, Int.reduceNe, Int.reduceLT, Int.reduceLE, ne_eq, not_true_eq_false, not_false_eq_true] at hb0) <;> (try simp only [beq_true, beq_false, Bool.not_eq_true', Bool.not_eq_false'] at hb) <;> (simp only [go_sem, Nat.reduceAdd, Nat.reduceSub, Nat.reduceMul, Nat.reduceLeDiff, Nat.reduceLT, Nat.reduceEqDiff, Int.reduceToNat, Int.reduceAdd, Int.reduceMul, Int.reduceSub, Int.reduceLT, Int.reduceLE, Int.reduceEq, Int.reduceNeg, Int.reduceBEq, Int.reduceBNe, ↓reduceIte, reduceCtorEq, hb, hb0] <;> try simp (disch := omega) only [wrap_of])) | (refine And.intro ?_ ?_) | refine awp_skip ?_ | refine awp_ret ?_ | refine awp_exit ?_ | refine awp_label ?_ | refine awloop_step ?_ | fail)
    all_goals first
      | omega
      | (((try simp only [go_sem, Nat.reduceAdd, Nat.reduceSub, Nat.reduceMul, Nat.reduceLeDiff, Nat.reduceLT, Nat.reduceEqDiff, Int.reduceToNat, Int.reduceAdd, Int.reduceMul, Int.reduceSub, Int.reduceLT, Int.reduceLE, Int.reduceEq, Int.reduceNeg, Int.reduceBEq, Int.reduceBNe, ↓reduceIte, reduceCtorEq]); (first | refine ⟨_, rfl, _, rfl, Fin.pure0 0 ?_⟩ | refine ⟨_, rfl, _, rfl, Fin.pure 1 ?_⟩); simp only [AV.low, List.map_cons, List.map_nil, aOne, aev, List.getElem?_cons_zero, List.getElem?_cons_succ, Option.getD_some, List.length_append, List.length_cons, List.length_nil, Nat.lt_irrefl, if_false]; try rfl)
         all_goals simp [AV.low, ofAns, hn])
theorem must_run (x : Int) (H0 : List AObj) : ARun Tryz.prog 89 [.b true, .i x] H0 (.ret (.tup []) H0) := by
  (refine ARun.intro Tryz.func89 rfl Tryz.call89 Tryz.ntmps89 Tryz.results89 ?_; simp only [List.length_cons, List.length_nil, List.length_map, Nat.reduceAdd, Nat.reduceSub, List.replicate_succ, List.replicate_zero, List.cons_append, List.nil_append])
  repeat' (first | refine awp_seq ?_ | refine awp_block ?_ | refine awp_scope ?_ | ((first | refine awp_region_k fun Kn Kp hn hp => ?_ | refine oge_intro (by assumption) ?_) <;> (simp only [go_sem, Nat.reduceAdd, Nat.reduceSub, Nat.reduceMul, Nat.reduceLeDiff, Nat.reduceLT, Nat.reduceEqDiff, Int.reduceToNat, Int.reduceAdd, Int.reduceMul, Int.reduceSub, Int.reduceLT, Int.reduceLE, Int.reduceEq, Int.reduceNeg, Int.reduceBEq, Int.reduceBNe, ↓reduceIte, reduceCtorEq] <;> try simp (disch := omega) only [wrap_of])) | (refine hn _ _ ?_; clear hn hp Kn Kp) | (refine hp _ _ _ ?_; clear hn hp Kn Kp) | (refine awp_cond rfl (fun hb => ?_) (fun hb => ?_) <;> (try simp only [decide_eq_true_eq, decide_eq_false_iff_not, Bool.not_eq_true', Bool.not_eq_false', Bool.true_eq_false, Bool.false_eq_true, beq_iff_eq, bne_iff_ne, bne_eq_false_iff_eq, beq_eq_false_iff_ne, gt_iff_lt, ge_iff_le, Int.reduceEq, Int.reduceNe, Int.reduceLT, Int.reduceLE, ne_eq, not_true_eq_false, not_false_eq_true] at hb)) | ((first | refine awg_split (fun hb => ?_) (fun hb => ?_) | refine awsg_split (fun hb => ?_) (fun hb => ?_)) <;> have hb0 := hb <;> (try simp only [decide_eq_true_eq, decide_eq_false_iff_not, Bool.not_eq_true', Bool.not_eq_false', Bool.true_eq_false, Bool.false_eq_true, beq_iff_eq, bne_iff_ne, bne_eq_false_iff_eq, beq_eq_false_iff_ne, gt_iff_lt, ge_iff_le, Int.reduceEq, Int.reduceNe, Int.reduceLT, Int.reduceLE, ne_eq, not_true_eq_false, not_false_eq_true] at hb0) <;> (try simp only [beq_true, beq_false, Bool.not_eq_true', Bool.not_eq_false'] at hb) <;> (simp only [go_sem, Nat.reduceAdd, Nat.reduceSub, Nat.reduceMul, Nat.reduceLeDiff, Nat.reduceLT, Nat.reduceEqDiff, Int.reduceToNat, Int.reduceAdd, Int.reduceMul, Int.reduceSub, Int.reduceLT, Int.reduceLE, Int.reduceEq, Int.reduceNeg, Int.reduceBEq, Int.reduceBNe, ↓reduceIte, reduceCtorEq, hb, hb0] <;> try simp (disch := omega) only [wrap_of])) | (refine And.intro ?_ ?_) | refine awp_skip ?_ | refine awp_ret ?_ | refine awp_exit ?_ | refine awp_label ?_ | refine awloop_step ?_ | fail)
  ((try simp only [go_sem, Nat.reduceAdd, Nat.reduceSub, Nat.reduceMul, Nat.reduceLeDiff, Nat.reduceLT, Nat.reduceEqDiff, Int.reduceToNat, Int.reduceAdd, Int.reduceMul, Int.reduceSub, Int.reduceLT, Int.reduceLE, Int.reduceEq, Int.reduceNeg, Int.reduceBEq, Int.reduceBNe, ↓reduceIte, reduceCtorEq]); (first | refine ⟨_, rfl, _, rfl, Fin.pure0 0 ?_⟩ | refine ⟨_, rfl, _, rfl, Fin.pure 1 ?_⟩); simp only [AV.low, List.map_cons, List.map_nil, aOne, aev, List.getElem?_cons_zero, List.getElem?_cons_succ, Option.getD_some, List.length_append, List.length_cons, List.length_nil, Nat.lt_irrefl, if_false]; try rfl)
theorem must_pan (x : Int) (H0 : List AObj) : ARun Tryz.prog 89 [.b false, .i x] H0 (.pan (.sc (.iface 37 (.int .i64 x))) H0) := by
  (refine ARun.intro Tryz.func89 rfl Tryz.call89 Tryz.ntmps89 Tryz.results89 ?_; simp only [List.length_cons, List.length_nil, List.length_map, Nat.reduceAdd, Nat.reduceSub, List.replicate_succ, List.replicate_zero, List.cons_append, List.nil_append])
  repeat' (first | refine awp_seq ?_ | refine awp_block ?_ | refine awp_scope ?_ | ((first | refine awp_region_k fun Kn Kp hn hp => ?_ | refine oge_intro (by assumption) ?_) <;> (simp only [go_sem, Nat.reduceAdd, Nat.reduceSub, Nat.reduceMul, Nat.reduceLeDiff, Nat.reduceLT, Nat.reduceEqDiff, Int.reduceToNat, Int.reduceAdd, Int.reduceMul, Int.reduceSub, Int.reduceLT, Int.reduceLE, Int.reduceEq, Int.reduceNeg, Int.reduceBEq, Int.reduceBNe, ↓reduceIte, reduceCtorEq] <;> try simp (disch := omega) only [wrap_of])) | (refine hn _ _ ?_; clear hn hp Kn Kp) | (refine hp _ _ _ ?_; clear hn hp Kn Kp) | (refine awp_cond rfl (fun hb => ?_) (fun hb => ?_) <;> (try simp only [decide_eq_true_eq, decide_eq_false_iff_not, Bool.not_eq_true', Bool.not_eq_false', Bool.true_eq_false, Bool.false_eq_true, beq_iff_eq, bne_iff_ne, bne_eq_false_iff_eq, beq_eq_false_iff_ne, gt_iff_lt, ge_iff_le, Int.reduceEq, Int.reduceNe, Int.reduceLT, Int.reduceLE, ne_eq, not_true_eq_false, not_false_eq_true] at hb)) | ((first | refine awg_split (fun hb => ?_) (fun hb => ?_) | refine awsg_split (fun hb => ?_) (fun hb => ?_)) <;> have hb0 := hb <;> (try simp only [decide_eq_true_eq, decide_eq_false_iff_not, Bool.not_eq_true', Bool.not_eq_false', Bool.true_eq_false, Bool.false_eq_true, beq_iff_eq, bne_iff_ne, bne_eq_false_iff_eq, beq_eq_false_iff_ne, gt_iff_lt, ge_iff_le, Int.reduceEq, Int.reduceNe, Int.reduceLT, Int.reduceLE, ne_eq, not_true_eq_false, not_false_eq_true] at hb0) <;> (try simp only [beq_true, beq_false, Bool.not_eq_true', Bool.not_eq_false'] at hb) <;> (simp only [go_sem, Nat.reduceAdd, Nat.reduceSub, Nat.reduceMul, Nat.reduceLeDiff, Nat.reduceLT, Nat.reduceEqDiff, Int.reduceToNat, Int.reduceAdd, Int.reduceMul, Int.reduceSub, Int.reduceLT, Int.reduceLE, Int.reduceEq, Int.reduceNeg, Int.reduceBEq, Int.reduceBNe, ↓reduceIte, reduceCtorEq, hb, hb0] <;> try simp (disch := omega) only [wrap_of])) | (refine And.intro ?_ ?_) | refine awp_skip ?_ | refine awp_ret ?_ | refine awp_exit ?_ | refine awp_label ?_ | refine awloop_step ?_ | fail)
  ((first | refine ⟨_, rfl, Fin.pure0 0 ?_⟩ | refine ⟨_, rfl, Fin.pure 1 ?_⟩); simp only [AV.low]; try rfl)
theorem fits_run (n : Int) (H0 : List AObj) : ARun Tryz.prog 124 [.i n] H0 (.ret (.b (decide (-4 ≤ n ∧ n ≤ 4))) H0) := by
  (refine ARun.intro Tryz.func124 rfl Tryz.call124 Tryz.ntmps124 Tryz.results124 ?_; simp only [List.length_cons, List.length_nil, List.length_map, Nat.reduceAdd, Nat.reduceSub, List.replicate_succ, List.replicate_zero, List.cons_append, List.nil_append])
  repeat' (first | refine awp_seq ?_ | refine awp_block ?_ | refine awp_scope ?_ | ((first | refine awp_region_k fun Kn Kp hn hp => ?_ | refine oge_intro (by assumption) ?_) <;> (simp only [go_sem, Nat.reduceAdd, Nat.reduceSub, Nat.reduceMul, Nat.reduceLeDiff, Nat.reduceLT, Nat.reduceEqDiff, Int.reduceToNat, Int.reduceAdd, Int.reduceMul, Int.reduceSub, Int.reduceLT, Int.reduceLE, Int.reduceEq, Int.reduceNeg, Int.reduceBEq, Int.reduceBNe, ↓reduceIte, reduceCtorEq] <;> try simp (disch := omega) only [wrap_of])) | (refine hn _ _ ?_; clear hn hp Kn Kp) | (refine hp _ _ _ ?_; clear hn hp Kn Kp) | (refine awp_cond rfl (fun hb => ?_) (fun hb => ?_) <;> (try simp only [decide_eq_true_eq, decide_eq_false_iff_not, Bool.not_eq_true', Bool.not_eq_false', Bool.true_eq_false, Bool.false_eq_true, beq_iff_eq, bne_iff_ne, bne_eq_false_iff_eq, beq_eq_false_iff_ne, gt_iff_lt, ge_iff_le, Int.reduceEq, Int.reduceNe, Int.reduceLT, Int.reduceLE, ne_eq, not_true_eq_false, not_false_eq_true] at hb)) | ((first | refine awg_split (fun hb => ?_) (fun hb => ?_) | refine awsg_split (fun hb => ?_) (fun hb => ?_)) <;> have hb0 := hb <;> (try simp only [decide_eq_true_eq, decide_eq_false_iff_not, Bool.not_eq_true', Bool.not_eq_false', Bool.true_eq_false, Bool.false_eq_true, beq_iff_eq, bne_iff_ne, bne_eq_false_iff_eq, beq_eq_false_iff_ne, gt_iff_lt, ge_iff_le, Int.reduceEq, Int.reduceNe, Int.reduceLT, Int.reduceLE, ne_eq, not_true_eq_false, not_false_eq_true] at hb0) <;> (try simp only [beq_true, beq_false, Bool.not_eq_true', Bool.not_eq_false'] at hb) <;> (simp only [go_sem, Nat.reduceAdd, Nat.reduceSub, Nat.reduceMul, Nat.reduceLeDiff, Nat.reduceLT, Nat.reduceEqDiff, Int.reduceToNat, Int.reduceAdd, Int.reduceMul, Int.reduceSub, Int.reduceLT, Int.reduceLE, Int.reduceEq, Int.reduceNeg, Int.reduceBEq, Int.reduceBNe, ↓reduceIte, reduceCtorEq, hb, hb0] <;> try simp (disch := omega) only [wrap_of])) | (refine And.intro ?_ ?_) | refine awp_skip ?_ | refine awp_ret ?_ | refine awp_exit ?_ | refine awp_label ?_ | refine awloop_step ?_ | fail)
  all_goals
    ((try simp only [go_sem, Nat.reduceAdd, Nat.reduceSub, Nat.reduceMul, Nat.reduceLeDiff, Nat.reduceLT, Nat.reduceEqDiff, Int.reduceToNat, Int.reduceAdd, Int.reduceMul, Int.reduceSub, Int.reduceLT, Int.reduceLE, Int.reduceEq, Int.reduceNeg, Int.reduceBEq, Int.reduceBNe, ↓reduceIte, reduceCtorEq]); (first | refine ⟨_, rfl, _, rfl, Fin.pure0 0 ?_⟩ | refine ⟨_, rfl, _, rfl, Fin.pure 1 ?_⟩); simp only [AV.low, List.map_cons, List.map_nil, aOne, aev, List.getElem?_cons_zero, List.getElem?_cons_succ, Option.getD_some, List.length_append, List.length_cons, List.length_nil, Nat.lt_irrefl, if_false]; try rfl)
    all_goals simp [hb]
theorem must_c (b : Bool) (x : Int) (H0 : List AObj) : ARun Tryz.prog 89 [.b b, .i x] H0 (cond b (.ret (.tup []) H0) (.pan (.pv (.sc (.iface 37 (.int .i64 x)))) H0)) := by
  cases b
  · exact must_pan x H0
  · exact must_run x H0
def outC (u : Un) (H : List AObj) : AOut := if u.ok then .ret (.ag (cU u)) H else .pan (.sc (.iface 37 (.int .i64 13))) H
theorem plus_run (a b : Un) (s : Int) (ha : a.ok) (hb0 : b.ok) (hs : s = 1 ∨ s = -1) (H0 : List AObj) : ARun Tryz.prog 115 [.ag (cU a), .ag (cU b), .i s] H0 (outC (a.add b s) H0) := by
  obtain ⟨a1, a2, a3, a4, a5, a6⟩ := ha
  obtain ⟨b1, b2, b3, b4, b5, b6⟩ := hb0
  rcases hs with rfl | rfl
  all_goals
    (refine ARun.intro Tryz.func115 rfl Tryz.call115 Tryz.ntmps115 Tryz.results115 ?_; simp only [List.length_cons, List.length_nil, List.length_map, Nat.reduceAdd, Nat.reduceSub, List.replicate_succ, List.replicate_zero, List.cons_append, List.nil_append])
    repeat' (first | refine awp_seq ?_ | refine awp_block ?_ | refine awp_scope ?_ | ((first | refine awp_region_k fun Kn Kp hn hp => ?_ | show AWP _ _ (Code.region 4 _ true) _ _ _; refine awp_drawn_k (id := 4) [10] [] [.win [0], .win [0], .win [0], .win [0], .win [0], .win [0], .win [0], .win [0], .win [0], .win [0], .eff 0] 1 rfl (by as_aux_lemma => kernel_rfl) fun Kn Kp hn hp => ?_ | refine oge_intro (by assumption) ?_) <;> (simp only [go_sem, Nat.reduceAdd, Nat.reduceSub, Nat.reduceMul, Nat.reduceLeDiff, Nat.reduceLT, Nat.reduceEqDiff, Int.reduceToNat, Int.reduceAdd, Int.reduceMul, Int.reduceSub, Int.reduceLT, Int.reduceLE, Int.reduceEq, Int.reduceNeg, Int.reduceBEq, Int.reduceBNe, ↓reduceIte, reduceCtorEq] <;> try simp (disch := omega) only [wrap_of])) | (refine hn _ _ ?_; clear hn hp Kn Kp) | (refine hp _ _ _ ?_; clear hn hp Kn Kp) | (refine awp_cond rfl (fun hb => ?_) (fun hb => ?_) <;> (try simp only [decide_eq_true_eq, decide_eq_false_iff_not, Bool.not_eq_true', Bool.not_eq_false', Bool.true_eq_false, Bool.false_eq_true, beq_iff_eq, bne_iff_ne, bne_eq_false_iff_eq, beq_eq_false_iff_ne, gt_iff_lt, ge_iff_le, Int.reduceEq, Int.reduceNe, Int.reduceLT, Int.reduceLE, ne_eq, not_true_eq_false, not_false_eq_true] at hb)) | ((first | refine awg_split (fun hb => ?_) (fun hb => ?_) | refine awsg_split (fun hb => ?_) (fun hb => ?_)) <;> have hb0 := hb <;> (try simp only [decide_eq_true_eq, decide_eq_false_iff_not, Bool.not_eq_true', Bool.not_eq_false', Bool.true_eq_false, Bool.false_eq_true, beq_iff_eq, bne_iff_ne, bne_eq_false_iff_eq, beq_eq_false_iff_ne, gt_iff_lt, ge_iff_le, Int.reduceEq, Int.reduceNe, Int.reduceLT, Int.reduceLE, ne_eq, not_true_eq_false, not_false_eq_true] at hb0) <;> (try simp only [beq_true, beq_false, Bool.not_eq_true', Bool.not_eq_false'] at hb) <;> (simp only [go_sem, Nat.reduceAdd, Nat.reduceSub, Nat.reduceMul, Nat.reduceLeDiff, Nat.reduceLT, Nat.reduceEqDiff, Int.reduceToNat, Int.reduceAdd, Int.reduceMul, Int.reduceSub, Int.reduceLT, Int.reduceLE, Int.reduceEq, Int.reduceNeg, Int.reduceBEq, Int.reduceBNe, ↓reduceIte, reduceCtorEq, hb, hb0] <;> try simp (disch := omega) only [wrap_of])) | (refine And.intro ?_ ?_) | refine awp_skip ?_ | refine awp_ret ?_ | refine awp_exit ?_ | refine awp_label ?_ | refine awloop_step ?_ | fail)
    refine awp_loop 4 ?_
    repeat' (first | refine awp_seq ?_ | refine awp_block ?_ | refine awp_scope ?_ | ((first | refine awp_region_k fun Kn Kp hn hp => ?_ | show AWP _ _ (Code.region 4 _ true) _ _ _; refine awp_drawn_k (id := 4) [10] [] [.win [0], .win [0], .win [0], .win [0], .win [0], .win [0], .win [0], .win [0], .win [0], .win [0], .eff 0] 1 rfl (by as_aux_lemma => kernel_rfl) fun Kn Kp hn hp => ?_ | refine oge_intro (by assumption) ?_) <;> (simp only [go_sem, Nat.reduceAdd, Nat.reduceSub, Nat.reduceMul, Nat.reduceLeDiff, Nat.reduceLT, Nat.reduceEqDiff, Int.reduceToNat, Int.reduceAdd, Int.reduceMul, Int.reduceSub, Int.reduceLT, Int.reduceLE, Int.reduceEq, Int.reduceNeg, Int.reduceBEq, Int.reduceBNe, ↓reduceIte, reduceCtorEq] <;> try simp (disch := omega) only [wrap_of])) | (refine hn _ _ ?_; clear hn hp Kn Kp) | (refine hp _ _ _ ?_; clear hn hp Kn Kp) | (refine awp_cond rfl (fun hb => ?_) (fun hb => ?_) <;> (try simp only [decide_eq_true_eq, decide_eq_false_iff_not, Bool.not_eq_true', Bool.not_eq_false', Bool.true_eq_false, Bool.false_eq_true, beq_iff_eq, bne_iff_ne, bne_eq_false_iff_eq, beq_eq_false_iff_ne, gt_iff_lt, ge_iff_le, Int.reduceEq, Int.reduceNe, Int.reduceLT, Int.reduceLE, ne_eq, not_true_eq_false, not_false_eq_true] at hb)) | ((first | refine awg_split (fun hb => ?_) (fun hb => ?_) | refine awsg_split (fun hb => ?_) (fun hb => ?_) | refine awe_cases (must_c _ _ _) (fun hb => ?_) (fun hb => ?_)) <;> have hb0 := hb <;> (try simp only [decide_eq_true_eq, decide_eq_false_iff_not, Bool.not_eq_true', Bool.not_eq_false', Bool.true_eq_false, Bool.false_eq_true, beq_iff_eq, bne_iff_ne, bne_eq_false_iff_eq, beq_eq_false_iff_ne, gt_iff_lt, ge_iff_le, Int.reduceEq, Int.reduceNe, Int.reduceLT, Int.reduceLE, ne_eq, not_true_eq_false, not_false_eq_true] at hb0) <;> (try simp only [beq_true, beq_false, Bool.not_eq_true', Bool.not_eq_false'] at hb) <;> (simp only [go_sem, Nat.reduceAdd, Nat.reduceSub, Nat.reduceMul, Nat.reduceLeDiff, Nat.reduceLT, Nat.reduceEqDiff, Int.reduceToNat, Int.reduceAdd, Int.reduceMul, Int.reduceSub, Int.reduceLT, Int.reduceLE, Int.reduceEq, Int.reduceNeg, Int.reduceBEq, Int.reduceBNe, ↓reduceIte, reduceCtorEq, hb, hb0] <;> try simp (disch := omega) only [wrap_of])) | (refine And.intro ?_ ?_) | refine awp_skip ?_ | refine awp_ret ?_ | refine awp_exit ?_ | refine awp_label ?_ | refine awloop_step ?_ | fail)
    all_goals first
      | (rw [outC, if_pos (by simp only [Un.ok, Un.add]; omega)]
         ((try simp only [go_sem, Nat.reduceAdd, Nat.reduceSub, Nat.reduceMul, Nat.reduceLeDiff, Nat.reduceLT, Nat.reduceEqDiff, Int.reduceToNat, Int.reduceAdd, Int.reduceMul, Int.reduceSub, Int.reduceLT, Int.reduceLE, Int.reduceEq, Int.reduceNeg, Int.reduceBEq, Int.reduceBNe, ↓reduceIte, reduceCtorEq]); (first | refine ⟨_, rfl, _, rfl, Fin.pure0 0 ?_⟩ | refine ⟨_, rfl, _, rfl, Fin.pure 1 ?_⟩); simp only [AV.low, List.map_cons, List.map_nil, aOne, aev, List.getElem?_cons_zero, List.getElem?_cons_succ, Option.getD_some, List.length_append, List.length_cons, List.length_nil, Nat.lt_irrefl, if_false]; try rfl)
         all_goals simp [Un.add, cU])
      | (rw [outC, if_neg (by simp only [Un.ok, Un.add]; omega)]
         ((first | refine ⟨_, rfl, Fin.pure0 0 ?_⟩ | refine ⟨_, rfl, Fin.pure 1 ?_⟩); simp only [AV.low]; try rfl))
theorem dr114_7_U6 : Drawn Tryz.prog 7 (regOps 7 ((Tryz.f114.body).getD .skip)) [13] [] [.win [0], .win [0], .win [0], .win [0], .win [0], .win [0], .win [0], .win [0], .win [0], .win [0], .win [0], .win [0], .win [0], .eff 0] 1 [] := ⟨rfl, by as_aux_lemma => kernel_rfl⟩
theorem dr114_8_U6 : Drawn Tryz.prog 8 (regOps 8 ((Tryz.f114.body).getD .skip)) [8] [] [.win [0], .win [0], .win [0], .win [0], .win [0], .win [0], .win [0], .win [0], .eff 0] 1 [] := ⟨rfl, by as_aux_lemma => kernel_rfl⟩
abbrev chk (vs : List Un) : AV := .rp [.rs 3 (vs.map fun u => cU u)]
theorem leaf_run (vs : List Un) (e : Ex) (H0 : List AObj) : ARun Tryz.prog 114 [chk vs, .ag (cE e)] H0 (outU 37 (leafS vs e.op e.n e.unit) H0) := by
  by_cases h1 : e.op = 1
  · by_cases hq : 0 ≤ e.n ∧ e.n ≤ 1000000000
    · obtain ⟨hn1, hn2⟩ := hq
      cases hk : ofK e.unit with
      | none =>
        have : leafS vs e.op e.n e.unit = .error 1 := by simp [leafS, h1, hn1, hn2, hk]
        rw [this]
        (refine ARun.intro Tryz.func114 rfl Tryz.call114 Tryz.ntmps114 Tryz.results114 ?_; simp only [List.length_cons, List.length_nil, List.length_map, Nat.reduceAdd, Nat.reduceSub, List.replicate_succ, List.replicate_zero, List.cons_append, List.nil_append])
        (have rr1 := dr114_7_U6; have rr2 := dr114_8_U6; have ww1 := h1; have ww2 := hn1; have ww3 := hn2; have ww4 := @ofAns.eq_1; have ww5 := hk; have cc1 := fun z1 z2 => of_run z1 z2; have cc2 := fun z1 z2 => must_run z1 z2; have cc3 := fun z1 z2 => must_pan z1 z2; refine wk ?_; clear rr1 rr2 ww1 ww2 ww3 ww4 ww5 cc1 cc2 cc3; (repeat' first | exact True.intro | refine Lf.mk ?_ ?_); all_goals intro hP)
        (refine panX ?_; try exact True.intro)
      | some u =>
        have : leafS vs e.op e.n e.unit = .ok u := by simp [leafS, h1, hn1, hn2, hk]
        rw [this]
        (refine ARun.intro Tryz.func114 rfl Tryz.call114 Tryz.ntmps114 Tryz.results114 ?_; simp only [List.length_cons, List.length_nil, List.length_map, Nat.reduceAdd, Nat.reduceSub, List.replicate_succ, List.replicate_zero, List.cons_append, List.nil_append])
        (have rr1 := dr114_7_U6; have rr2 := dr114_8_U6; have ww1 := h1; have ww2 := hn1; have ww3 := hn2; have ww4 := @ofAns.eq_1; have ww5 := hk; have cc1 := fun z1 z2 => of_run z1 z2; have cc2 := fun z1 z2 => must_run z1 z2; have cc3 := fun z1 z2 => must_pan z1 z2; refine wk ?_; clear rr1 rr2 ww1 ww2 ww3 ww4 ww5 cc1 cc2 cc3; (repeat' first | exact True.intro | refine Lf.mk ?_ ?_); all_goals intro hP)
        (refine resX ?_; try exact True.intro)
    · have : leafS vs e.op e.n e.unit = .error 1 := by simp [leafS, h1, hq]
      rw [this]
      (refine ARun.intro Tryz.func114 rfl Tryz.call114 Tryz.ntmps114 Tryz.results114 ?_; simp only [List.length_cons, List.length_nil, List.length_map, Nat.reduceAdd, Nat.reduceSub, List.replicate_succ, List.replicate_zero, List.cons_append, List.nil_append])
      repeat' (first | refine awp_seq ?_ | refine awp_block ?_ | refine awp_scope ?_ | ((first | refine awp_region_k fun Kn Kp hn hp => ?_ | show AWP _ _ (Code.region 7 _ true) _ _ _; refine awp_drawn_k (id := 7) [13] [] [.win [0], .win [0], .win [0], .win [0], .win [0], .win [0], .win [0], .win [0], .win [0], .win [0], .win [0], .win [0], .win [0], .eff 0] 1 rfl (by as_aux_lemma => kernel_rfl) fun Kn Kp hn hp => ?_ | show AWP _ _ (Code.region 8 _ true) _ _ _; refine awp_drawn_k (id := 8) [8] [] [.win [0], .win [0], .win [0], .win [0], .win [0], .win [0], .win [0], .win [0], .eff 0] 1 rfl (by as_aux_lemma => kernel_rfl) fun Kn Kp hn hp => ?_ | refine oge_intro (by assumption) ?_) <;> (simp only [go_sem, Nat.reduceAdd, Nat.reduceSub, Nat.reduceMul, Nat.reduceLeDiff, Nat.reduceLT, Nat.reduceEqDiff, Int.reduceToNat, Int.reduceAdd, Int.reduceMul, Int.reduceSub, Int.reduceLT, Int.reduceLE, Int.reduceEq, Int.reduceNeg, Int.reduceBEq, Int.reduceBNe, ↓reduceIte, reduceCtorEq, h1] <;> try simp (disch := omega) only [wrap_of])) | (refine hn _ _ ?_; clear hn hp Kn Kp) | (refine hp _ _ _ ?_; clear hn hp Kn Kp) | (refine awp_cond rfl (fun hb => ?_) (fun hb => ?_) <;> (try simp only [decide_eq_true_eq, decide_eq_false_iff_not, Bool.not_eq_true', Bool.not_eq_false', Bool.true_eq_false, Bool.false_eq_true, beq_iff_eq, bne_iff_ne, bne_eq_false_iff_eq, beq_eq_false_iff_ne, gt_iff_lt, ge_iff_le, Int.reduceEq, Int.reduceNe, Int.reduceLT, Int.reduceLE, ne_eq, not_true_eq_false, not_false_eq_true] at hb)) | ((first | refine awg_split (fun hb => ?_) (fun hb => ?_) | refine awsg_split (fun hb => ?_) (fun hb => ?_) | refine awe_cases (must_c _ _ _) (fun hb => ?_) (fun hb => ?_)) <;> have hb0 := hb <;> (try simp only [decide_eq_true_eq, decide_eq_false_iff_not, Bool.not_eq_true', Bool.not_eq_false', Bool.true_eq_false, Bool.false_eq_true, beq_iff_eq, bne_iff_ne, bne_eq_false_iff_eq, beq_eq_false_iff_ne, gt_iff_lt, ge_iff_le, Int.reduceEq, Int.reduceNe, Int.reduceLT, Int.reduceLE, ne_eq, not_true_eq_false, not_false_eq_true] at hb0) <;> (try simp only [beq_true, beq_false, Bool.not_eq_true', Bool.not_eq_false'] at hb) <;> (simp only [go_sem, Nat.reduceAdd, Nat.reduceSub, Nat.reduceMul, Nat.reduceLeDiff, Nat.reduceLT, Nat.reduceEqDiff, Int.reduceToNat, Int.reduceAdd, Int.reduceMul, Int.reduceSub, Int.reduceLT, Int.reduceLE, Int.reduceEq, Int.reduceNeg, Int.reduceBEq, Int.reduceBNe, ↓reduceIte, reduceCtorEq, h1, hb, hb0] <;> try simp (disch := omega) only [wrap_of])) | (refine And.intro ?_ ?_) | refine awp_skip ?_ | refine awp_ret ?_ | refine awp_exit ?_ | refine awp_label ?_ | refine awloop_step ?_ | fail)
      all_goals first
        | omega
        | ((refine panX ?_; try exact True.intro))
  · have h1' : (e.op == 1) = false := by simpa using h1
    by_cases h2 : e.op = 2
    · by_cases hq : 0 ≤ e.n
      · cases hv : vs[e.n.toNat]? with
        | none =>
          have : leafS vs e.op e.n e.unit = .error 1 := by simp [leafS, h2, hq, hv]
          rw [this]
          have hlt : ¬ e.n < vs.length := by rw [List.getElem?_eq_none_iff] at hv; omega
          (refine ARun.intro Tryz.func114 rfl Tryz.call114 Tryz.ntmps114 Tryz.results114 ?_; simp only [List.length_cons, List.length_nil, List.length_map, Nat.reduceAdd, Nat.reduceSub, List.replicate_succ, List.replicate_zero, List.cons_append, List.nil_append])
          repeat' (first | refine awp_seq ?_ | refine awp_block ?_ | refine awp_scope ?_ | ((first | refine awp_region_k fun Kn Kp hn hp => ?_ | show AWP _ _ (Code.region 7 _ true) _ _ _; refine awp_drawn_k (id := 7) [13] [13] [.win [0], .win [0], .win [0], .win [0], .win [0], .win [0], .win [0], .win [0], .win [0], .win [0], .win [0], .win [0], .win [0], .pan [0]] 1 rfl (by as_aux_lemma => kernel_rfl) fun Kn Kp hn hp => ?_ | show AWP _ _ (Code.region 8 _ true) _ _ _; refine awp_drawn_k (id := 8) [8] [] [.win [0], .win [0], .win [0], .win [0], .win [0], .win [0], .win [0], .win [0], .eff 0] 1 rfl (by as_aux_lemma => kernel_rfl) fun Kn Kp hn hp => ?_ | refine oge_intro (by assumption) ?_ | (show AWE _ _ _ _ _ _ _ _ _; first | refine awe_intro (must_pan _ _) ?_) | (show AWSF _ _ _ _ _ _ _ _ _ _ _; first | refine awsf_intro (must_pan _ _) (fun hrun => ?_)) | (show OGE _ _ _ _ _ _ _; first | refine oge_intro (must_pan _ _) ?_) | (show AWSE _ _ _ _ _ _ _ _ _ _ _; first | refine awse_intro (must_pan _ _) (fun hrun => ?_)) | (show PGE _ _ _ _ _; first | refine pge_intro (must_pan _ _) (fun tm' => ?_))) <;> (simp only [go_sem, Nat.reduceAdd, Nat.reduceSub, Nat.reduceMul, Nat.reduceLeDiff, Nat.reduceLT, Nat.reduceEqDiff, Int.reduceToNat, Int.reduceAdd, Int.reduceMul, Int.reduceSub, Int.reduceLT, Int.reduceLE, Int.reduceEq, Int.reduceNeg, Int.reduceBEq, Int.reduceBNe, ↓reduceIte, reduceCtorEq, h2, h1', hq, hlt] <;> try simp (disch := omega) only [wrap_of])) | (refine hn _ _ ?_; clear hn hp Kn Kp) | (refine hp _ _ _ ?_; clear hn hp Kn Kp) | (refine awp_cond rfl (fun hb => ?_) (fun hb => ?_) <;> (try simp only [decide_eq_true_eq, decide_eq_false_iff_not, Bool.not_eq_true', Bool.not_eq_false', Bool.true_eq_false, Bool.false_eq_true, beq_iff_eq, bne_iff_ne, bne_eq_false_iff_eq, beq_eq_false_iff_ne, gt_iff_lt, ge_iff_le, Int.reduceEq, Int.reduceNe, Int.reduceLT, Int.reduceLE, ne_eq, not_true_eq_false, not_false_eq_true] at hb)) | ((first | refine awg_split (fun hb => ?_) (fun hb => ?_) | refine awsg_split (fun hb => ?_) (fun hb => ?_)) <;> have hb0 := hb <;> (try simp only [decide_eq_true_eq, decide_eq_false_iff_not, Bool.not_eq_true', Bool.not_eq_false', Bool.true_eq_false, Bool.false_eq_true, beq_iff_eq, bne_iff_ne, bne_eq_false_iff_eq, beq_eq_false_iff_ne, gt_iff_lt, ge_iff_le, Int.reduceEq, Int.reduceNe, Int.reduceLT, Int.reduceLE, ne_eq, not_true_eq_false, not_false_eq_true] at hb0) <;> (try simp only [beq_true, beq_false, Bool.not_eq_true', Bool.not_eq_false'] at hb) <;> (simp only [go_sem, Nat.reduceAdd, Nat.reduceSub, Nat.reduceMul, Nat.reduceLeDiff, Nat.reduceLT, Nat.reduceEqDiff, Int.reduceToNat, Int.reduceAdd, Int.reduceMul, Int.reduceSub, Int.reduceLT, Int.reduceLE, Int.reduceEq, Int.reduceNeg, Int.reduceBEq, Int.reduceBNe, ↓reduceIte, reduceCtorEq, h2, h1', hq, hlt, hb, hb0] <;> try simp (disch := omega) only [wrap_of])) | (refine And.intro ?_ ?_) | refine awp_skip ?_ | refine awp_ret ?_ | refine awp_exit ?_ | refine awp_label ?_ | refine awloop_step ?_ | fail)
          (refine panX ?_; try exact True.intro)
        | some u =>
          have : leafS vs e.op e.n e.unit = .ok u := by simp [leafS, h2, hq, hv]
          rw [this]
          have hlt : e.n < vs.length := by have := (List.getElem?_eq_some_iff.1 hv).1; omega
          (refine ARun.intro Tryz.func114 rfl Tryz.call114 Tryz.ntmps114 Tryz.results114 ?_; simp only [List.length_cons, List.length_nil, List.length_map, Nat.reduceAdd, Nat.reduceSub, List.replicate_succ, List.replicate_zero, List.cons_append, List.nil_append])
          (have rr1 := dr114_7_U6; have rr2 := dr114_8_U6; have ww1 := h2; have ww2 := h1'; have ww3 := hq; have ww4 := hlt; have ww5 := hv; have cc1 := fun z1 z2 => must_run z1 z2; refine wk ?_; clear rr1 rr2 ww1 ww2 ww3 ww4 ww5 cc1; (repeat' first | exact True.intro | refine Lf.mk ?_ ?_); all_goals intro hP)
          (refine resX ?_; try exact True.intro)
      · have : leafS vs e.op e.n e.unit = .error 1 := by simp [leafS, h2, hq]
        rw [this]
        (refine ARun.intro Tryz.func114 rfl Tryz.call114 Tryz.ntmps114 Tryz.results114 ?_; simp only [List.length_cons, List.length_nil, List.length_map, Nat.reduceAdd, Nat.reduceSub, List.replicate_succ, List.replicate_zero, List.cons_append, List.nil_append])
        repeat' (first | refine awp_seq ?_ | refine awp_block ?_ | refine awp_scope ?_ | ((first | refine awp_region_k fun Kn Kp hn hp => ?_ | show AWP _ _ (Code.region 7 _ true) _ _ _; refine awp_drawn_k (id := 7) [13] [13] [.win [0], .win [0], .win [0], .win [0], .win [0], .win [0], .win [0], .win [0], .win [0], .win [0], .win [0], .win [0], .win [0], .pan [0]] 1 rfl (by as_aux_lemma => kernel_rfl) fun Kn Kp hn hp => ?_ | show AWP _ _ (Code.region 8 _ true) _ _ _; refine awp_drawn_k (id := 8) [8] [] [.win [0], .win [0], .win [0], .win [0], .win [0], .win [0], .win [0], .win [0], .eff 0] 1 rfl (by as_aux_lemma => kernel_rfl) fun Kn Kp hn hp => ?_ | refine oge_intro (by assumption) ?_ | (show AWE _ _ _ _ _ _ _ _ _; first | refine awe_intro (must_pan _ _) ?_) | (show AWSF _ _ _ _ _ _ _ _ _ _ _; first | refine awsf_intro (must_pan _ _) (fun hrun => ?_)) | (show OGE _ _ _ _ _ _ _; first | refine oge_intro (must_pan _ _) ?_) | (show AWSE _ _ _ _ _ _ _ _ _ _ _; first | refine awse_intro (must_pan _ _) (fun hrun => ?_)) | (show PGE _ _ _ _ _; first | refine pge_intro (must_pan _ _) (fun tm' => ?_))) <;> (simp only [go_sem, Nat.reduceAdd, Nat.reduceSub, Nat.reduceMul, Nat.reduceLeDiff, Nat.reduceLT, Nat.reduceEqDiff, Int.reduceToNat, Int.reduceAdd, Int.reduceMul, Int.reduceSub, Int.reduceLT, Int.reduceLE, Int.reduceEq, Int.reduceNeg, Int.reduceBEq, Int.reduceBNe, ↓reduceIte, reduceCtorEq, h2, h1', hq] <;> try simp (disch := omega) only [wrap_of])) | (refine hn _ _ ?_; clear hn hp Kn Kp) | (refine hp _ _ _ ?_; clear hn hp Kn Kp) | (refine awp_cond rfl (fun hb => ?_) (fun hb => ?_) <;> (try simp only [decide_eq_true_eq, decide_eq_false_iff_not, Bool.not_eq_true', Bool.not_eq_false', Bool.true_eq_false, Bool.false_eq_true, beq_iff_eq, bne_iff_ne, bne_eq_false_iff_eq, beq_eq_false_iff_ne, gt_iff_lt, ge_iff_le, Int.reduceEq, Int.reduceNe, Int.reduceLT, Int.reduceLE, ne_eq, not_true_eq_false, not_false_eq_true] at hb)) | ((first | refine awg_split (fun hb => ?_) (fun hb => ?_) | refine awsg_split (fun hb => ?_) (fun hb => ?_)) <;> have hb0 := hb <;> (try simp only [decide_eq_true_eq, decide_eq_false_iff_not, Bool.not_eq_true', Bool.not_eq_false', Bool.true_eq_false, Bool.false_eq_true, beq_iff_eq, bne_iff_ne, bne_eq_false_iff_eq, beq_eq_false_iff_ne, gt_iff_lt, ge_iff_le, Int.reduceEq, Int.reduceNe, Int.reduceLT, Int.reduceLE, ne_eq, not_true_eq_false, not_false_eq_true] at hb0) <;> (try simp only [beq_true, beq_false, Bool.not_eq_true', Bool.not_eq_false'] at hb) <;> (simp only [go_sem, Nat.reduceAdd, Nat.reduceSub, Nat.reduceMul, Nat.reduceLeDiff, Nat.reduceLT, Nat.reduceEqDiff, Int.reduceToNat, Int.reduceAdd, Int.reduceMul, Int.reduceSub, Int.reduceLT, Int.reduceLE, Int.reduceEq, Int.reduceNeg, Int.reduceBEq, Int.reduceBNe, ↓reduceIte, reduceCtorEq, h2, h1', hq, hb, hb0] <;> try simp (disch := omega) only [wrap_of])) | (refine And.intro ?_ ?_) | refine awp_skip ?_ | refine awp_ret ?_ | refine awp_exit ?_ | refine awp_label ?_ | refine awloop_step ?_ | fail)
        (refine panX ?_; try exact True.intro)
    · have h2' : (e.op == 2) = false := by simpa using h2
      by_cases h3 : e.op = 3
      · by_cases hq : 0 ≤ e.n ∧ e.n ≤ 3
        · have hc : e.n = 0 ∨ e.n = 1 ∨ e.n = 2 ∨ e.n = 3 := by omega
          rcases hc with hc | hc | hc | hc
          all_goals
            simp only [leafS, h3, hc, Int.reduceEq, if_true, if_false, true_or, or_true, or_false, false_or, outU]
            (refine ARun.intro Tryz.func114 rfl Tryz.call114 Tryz.ntmps114 Tryz.results114 ?_; simp only [List.length_cons, List.length_nil, List.length_map, Nat.reduceAdd, Nat.reduceSub, List.replicate_succ, List.replicate_zero, List.cons_append, List.nil_append])
            (have rr1 := dr114_7_U6; have rr2 := dr114_8_U6; have ww1 := h3; have ww2 := hc; have ww3 := @ofAns.eq_1; have ww4 := @ofK.eq_1; have cc1 := fun z1 z2 => of_run z1 z2; have cc2 := fun z1 z2 => must_run z1 z2; refine wk ?_; clear rr1 rr2 ww1 ww2 ww3 ww4 cc1 cc2; (repeat' first | exact True.intro | refine Lf.mk ?_ ?_); all_goals intro hP)
            (refine resX ?_; try exact True.intro)
        · have : leafS vs e.op e.n e.unit = .error 1 := by
            have a0 : ¬ e.n = 0 := by omega
            have a1 : ¬ e.n = 1 := by omega
            have a2 : ¬ e.n = 2 := by omega
            have a3 : ¬ e.n = 3 := by omega
            simp [leafS, h3, a0, a1, a2, a3]
          rw [this]
          (refine ARun.intro Tryz.func114 rfl Tryz.call114 Tryz.ntmps114 Tryz.results114 ?_; simp only [List.length_cons, List.length_nil, List.length_map, Nat.reduceAdd, Nat.reduceSub, List.replicate_succ, List.replicate_zero, List.cons_append, List.nil_append])
          repeat' (first | refine awp_seq ?_ | refine awp_block ?_ | refine awp_scope ?_ | ((first | refine awp_region_k fun Kn Kp hn hp => ?_ | show AWP _ _ (Code.region 7 _ true) _ _ _; refine awp_drawn_k (id := 7) [13] [] [.win [0], .win [0], .win [0], .win [0], .win [0], .win [0], .win [0], .win [0], .win [0], .win [0], .win [0], .win [0], .win [0], .eff 0] 1 rfl (by as_aux_lemma => kernel_rfl) fun Kn Kp hn hp => ?_ | show AWP _ _ (Code.region 8 _ true) _ _ _; refine awp_drawn_k (id := 8) [8] [] [.win [0], .win [0], .win [0], .win [0], .win [0], .win [0], .win [0], .win [0], .eff 0] 1 rfl (by as_aux_lemma => kernel_rfl) fun Kn Kp hn hp => ?_ | refine oge_intro (by assumption) ?_) <;> (simp only [go_sem, Nat.reduceAdd, Nat.reduceSub, Nat.reduceMul, Nat.reduceLeDiff, Nat.reduceLT, Nat.reduceEqDiff, Int.reduceToNat, Int.reduceAdd, Int.reduceMul, Int.reduceSub, Int.reduceLT, Int.reduceLE, Int.reduceEq, Int.reduceNeg, Int.reduceBEq, Int.reduceBNe, ↓reduceIte, reduceCtorEq, h3] <;> try simp (disch := omega) only [wrap_of])) | (refine hn _ _ ?_; clear hn hp Kn Kp) | (refine hp _ _ _ ?_; clear hn hp Kn Kp) | (refine awp_cond rfl (fun hb => ?_) (fun hb => ?_) <;> (try simp only [decide_eq_true_eq, decide_eq_false_iff_not, Bool.not_eq_true', Bool.not_eq_false', Bool.true_eq_false, Bool.false_eq_true, beq_iff_eq, bne_iff_ne, bne_eq_false_iff_eq, beq_eq_false_iff_ne, gt_iff_lt, ge_iff_le, Int.reduceEq, Int.reduceNe, Int.reduceLT, Int.reduceLE, ne_eq, not_true_eq_false, not_false_eq_true] at hb)) | ((first | refine awg_split (fun hb => ?_) (fun hb => ?_) | refine awsg_split (fun hb => ?_) (fun hb => ?_) | refine awe_cases (must_c _ _ _) (fun hb => ?_) (fun hb => ?_)) <;> have hb0 := hb <;> (try simp only [decide_eq_true_eq, decide_eq_false_iff_not, Bool.not_eq_true', Bool.not_eq_false', Bool.true_eq_false, Bool.false_eq_true, beq_iff_eq, bne_iff_ne, bne_eq_false_iff_eq, beq_eq_false_iff_ne, gt_iff_lt, ge_iff_le, Int.reduceEq, Int.reduceNe, Int.reduceLT, Int.reduceLE, ne_eq, not_true_eq_false, not_false_eq_true] at hb0) <;> (try simp only [beq_true, beq_false, Bool.not_eq_true', Bool.not_eq_false'] at hb) <;> (simp only [go_sem, Nat.reduceAdd, Nat.reduceSub, Nat.reduceMul, Nat.reduceLeDiff, Nat.reduceLT, Nat.reduceEqDiff, Int.reduceToNat, Int.reduceAdd, Int.reduceMul, Int.reduceSub, Int.reduceLT, Int.reduceLE, Int.reduceEq, Int.reduceNeg, Int.reduceBEq, Int.reduceBNe, ↓reduceIte, reduceCtorEq, h3, hb, hb0] <;> try simp (disch := omega) only [wrap_of])) | (refine And.intro ?_ ?_) | refine awp_skip ?_ | refine awp_ret ?_ | refine awp_exit ?_ | refine awp_label ?_ | refine awloop_step ?_ | fail)
          all_goals first
            | omega
            | ((refine panX ?_; try exact True.intro))
      · have h3' : (e.op == 3) = false := by simpa using h3
        have : leafS vs e.op e.n e.unit = .error 1 := by simp [leafS, h1, h2, h3]
        rw [this]
        (refine ARun.intro Tryz.func114 rfl Tryz.call114 Tryz.ntmps114 Tryz.results114 ?_; simp only [List.length_cons, List.length_nil, List.length_map, Nat.reduceAdd, Nat.reduceSub, List.replicate_succ, List.replicate_zero, List.cons_append, List.nil_append])
        (have rr1 := dr114_7_U6; have rr2 := dr114_8_U6; have ww1 := h1'; have ww2 := h2'; have ww3 := h3'; refine wk ?_; clear rr1 rr2 ww1 ww2 ww3; (repeat' first | exact True.intro | refine Lf.mk ?_ ?_); all_goals intro hP)
        (refine panX ?_; try exact True.intro)
theorem dr108_12_U7 : Drawn Tryz.prog 12 (regOps 12 ((Tryz.f108.body).getD .skip)) [6, 7] [] [.win [0], .win [0], .win [0], .win [0], .win [0], .win [0], .eff 0, .eff 1] 2 [] := ⟨rfl, by as_aux_lemma => kernel_rfl⟩
theorem dr108_15_U7 : Drawn Tryz.prog 15 (regOps 15 ((Tryz.f108.body).getD .skip)) [6, 7] [] [.win [0], .win [0], .win [0], .win [0], .win [0], .win [0], .eff 0, .eff 1] 2 [] := ⟨rfl, by as_aux_lemma => kernel_rfl⟩
theorem dr108_16_U7 : Drawn Tryz.prog 16 (regOps 16 ((Tryz.f108.body).getD .skip)) [7] [] [.win [0], .win [0], .win [0], .win [0], .win [0], .win [0], .win [0], .eff 0] 1 [] := ⟨rfl, by as_aux_lemma => kernel_rfl⟩
theorem plus_ok (a b : Un) (s : Int) (ha : a.ok) (hb : b.ok) (hs : s = 1 ∨ s = -1) (h : (a.add b s).ok) (H0 : List AObj) : ARun Tryz.prog 115 [.ag (cU a), .ag (cU b), .i s] H0 (.ret (.ag (cU (a.add b s))) H0) := by
  have := plus_run a b s ha hb hs H0
  rwa [outC, if_pos h] at this
theorem plus_bad (a b : Un) (s : Int) (ha : a.ok) (hb : b.ok) (hs : s = 1 ∨ s = -1) (h : ¬ (a.add b s).ok) (H0 : List AObj) : ARun Tryz.prog 115 [.ag (cU a), .ag (cU b), .i s] H0 (.pan (.sc (.iface 37 (.int .i64 13))) H0) := by
  have := plus_run a b s ha hb hs H0
  rwa [outC, if_neg h] at this
theorem infer_run (vs : List Un) (hvs : ∀ u ∈ vs, u.ok) (e : Ex) : ∀ (H0 : List AObj), nodes e ≤ 1000000 → ARun Tryz.prog 108 [chk vs, .ag (cE e)] H0 (outU 37 (inf vs e) H0) := by
  induction e using Ex.ind with
  | h e ih =>
    intro H0 hnod
    rw [nodes_eq] at hnod
    have hlen := len_nodesL e.kids
    (refine ARun.intro Tryz.func108 rfl Tryz.call108 Tryz.ntmps108 Tryz.results108 ?_; simp only [List.length_cons, List.length_nil, List.length_map, Nat.reduceAdd, Nat.reduceSub, List.replicate_succ, List.replicate_zero, List.cons_append, List.nil_append])
    (refine wk ?_; (repeat' first | exact True.intro | refine Lf.mk ?_ ?_); all_goals intro hP)
    refine awp_loop_ind (σ := Nat × List Un) (fun s => e.kids.length - s.1)
      (fun s => s.2.length = s.1 ∧ s.1 ≤ e.kids.length ∧ (∀ u ∈ s.2, u.ok) ∧ infL vs e.kids = match infL vs (e.kids.drop s.1) with | .ok r => .ok (s.2 ++ r) | .error x => .error x)
      (fun s => (chk vs :: .any :: .any :: .p H0.length 0 :: .p (H0.length + 1) 0 :: .os (H0.length + 2) 0 s.2.length s.2.length :: .any :: .any :: .any :: .rs 4 (e.kids.map encE) :: .i e.kids.length :: .i s.1 :: .any :: .any :: .any :: .any :: .any :: .any :: .any :: .any :: .any :: .any :: .any :: .any :: .any :: .any :: .any :: .any :: .any :: .any :: .any :: .any :: .any :: .any :: .any :: .any :: .any :: .any :: .any :: .any :: .any :: .any :: .any :: .any :: .any :: .any :: .any :: .any :: .any :: .any :: .any :: .any :: .any :: .any :: .any :: .any :: .any :: .any :: .any :: .any :: .any :: .any :: .any :: .any :: .any :: .any :: .any :: .any :: .any :: .any :: .any :: .any :: .any :: .any :: []))
      (fun s => H0 ++ [.cells 33 [.i e.op, .i e.n, .i e.unit, .rs 4 (e.kids.map encE)], .cells 111 [.i 0, .i 0, .i 0], .arr 111 3 (pvRows (s.2.map fun u => cU u))]) (0, [])
      ⟨rfl, Nat.zero_le _, by simp, by simp only [List.drop_zero, List.nil_append]; cases infL vs e.kids <;> rfl⟩
      (Wk.ghostL 5 2 111 (sz := 3) (by omega) rfl rfl rfl (by (refine fgX ?_; try exact True.intro))) ?_
    · rintro ⟨i, acc⟩ ⟨h1, h2, h3, h4⟩
      simp only at h1 h2 h3 h4 ⊢
      have hf1 : (acc.length + 1) * 24 ≤ 140737488355328 := by omega
      have hf2 : acc.length + 1 ≤ 9223372036854775807 := by omega
      cases hr : e.kids.drop i with
      | nil =>
        have hlt := drop_nil hr
        rw [hr] at h4
        simp only [infL, List.append_nil] at h4
        have hinf : inf vs e = node vs e.op e.n e.unit acc := by rw [inf_eq, h4]
        rw [hinf]
        rcases acc with _ | ⟨a, _ | ⟨b, _ | ⟨c, rs⟩⟩⟩
        · have hl := fun H0 => leaf_run vs e H0
          simp only [node]
          cases hle : leafS vs e.op e.n e.unit with
          | ok u =>
            simp only [hle, outU] at hl ⊢
            repeat' (first | refine awp_seq ?_ | refine awp_block ?_ | refine awp_scope ?_ | ((first | refine awp_region_k fun Kn Kp hn hp => ?_ | show AWP _ _ (Code.region 12 _ true) _ _ _; refine awp_drawn_k (id := 12) [6, 7] [] [.win [0], .win [0], .win [0], .win [0], .win [0], .win [0], .eff 0, .eff 1] 2 rfl (by as_aux_lemma => kernel_rfl) fun Kn Kp hn hp => ?_ | show AWP _ _ (Code.region 15 _ true) _ _ _; refine awp_drawn_k (id := 15) [6, 7] [] [.win [0], .win [0], .win [0], .win [0], .win [0], .win [0], .eff 0, .eff 1] 2 rfl (by as_aux_lemma => kernel_rfl) fun Kn Kp hn hp => ?_ | show AWP _ _ (Code.region 16 _ true) _ _ _; refine awp_drawn_k (id := 16) [7] [] [.win [0], .win [0], .win [0], .win [0], .win [0], .win [0], .win [0], .eff 0] 1 rfl (by as_aux_lemma => kernel_rfl) fun Kn Kp hn hp => ?_ | refine oge_intro (by assumption) ?_ | (show AWE _ _ _ _ _ _ _ _ _; first | refine awe_intro (hl _) ?_) | (show AWSF _ _ _ _ _ _ _ _ _ _ _; first | refine awsf_intro (hl _) (fun hrun => ?_)) | (show OGE _ _ _ _ _ _ _; first | refine oge_intro (hl _) ?_) | (show AWSE _ _ _ _ _ _ _ _ _ _ _; first | refine awse_intro (hl _) (fun hrun => ?_)) | (show PGE _ _ _ _ _; first | refine pge_intro (hl _) (fun tm' => ?_))) <;> (simp only [go_sem, Nat.reduceAdd, Nat.reduceSub, Nat.reduceMul, Nat.reduceLeDiff, Nat.reduceLT, Nat.reduceEqDiff, Int.reduceToNat, Int.reduceAdd, Int.reduceMul, Int.reduceSub, Int.reduceLT, Int.reduceLE, Int.reduceEq, Int.reduceNeg, Int.reduceBEq, Int.reduceBNe, ↓reduceIte, reduceCtorEq, hlt, pvRows_len, Int.natCast_zero, List.length_map] <;> try simp (disch := omega) only [wrap_of])) | (refine hn _ _ ?_; clear hn hp Kn Kp) | (refine hp _ _ _ ?_; clear hn hp Kn Kp) | (refine awp_cond rfl (fun hb => ?_) (fun hb => ?_) <;> (try simp only [decide_eq_true_eq, decide_eq_false_iff_not, Bool.not_eq_true', Bool.not_eq_false', Bool.true_eq_false, Bool.false_eq_true, beq_iff_eq, bne_iff_ne, bne_eq_false_iff_eq, beq_eq_false_iff_ne, gt_iff_lt, ge_iff_le, Int.reduceEq, Int.reduceNe, Int.reduceLT, Int.reduceLE, ne_eq, not_true_eq_false, not_false_eq_true] at hb)) | ((first | refine awg_split (fun hb => ?_) (fun hb => ?_) | refine awsg_split (fun hb => ?_) (fun hb => ?_)) <;> have hb0 := hb <;> (try simp only [decide_eq_true_eq, decide_eq_false_iff_not, Bool.not_eq_true', Bool.not_eq_false', Bool.true_eq_false, Bool.false_eq_true, beq_iff_eq, bne_iff_ne, bne_eq_false_iff_eq, beq_eq_false_iff_ne, gt_iff_lt, ge_iff_le, Int.reduceEq, Int.reduceNe, Int.reduceLT, Int.reduceLE, ne_eq, not_true_eq_false, not_false_eq_true] at hb0) <;> (try simp only [beq_true, beq_false, Bool.not_eq_true', Bool.not_eq_false'] at hb) <;> (simp only [go_sem, Nat.reduceAdd, Nat.reduceSub, Nat.reduceMul, Nat.reduceLeDiff, Nat.reduceLT, Nat.reduceEqDiff, Int.reduceToNat, Int.reduceAdd, Int.reduceMul, Int.reduceSub, Int.reduceLT, Int.reduceLE, Int.reduceEq, Int.reduceNeg, Int.reduceBEq, Int.reduceBNe, ↓reduceIte, reduceCtorEq, hlt, pvRows_len, Int.natCast_zero, List.length_map, hb, hb0] <;> try simp (disch := omega) only [wrap_of])) | (refine And.intro ?_ ?_) | refine awp_skip ?_ | refine awp_ret ?_ | refine awp_exit ?_ | refine awp_label ?_ | refine awloop_step ?_ | fail)
            (refine resX ?_; try exact True.intro)
          | error x =>
            simp only [hle, outU] at hl ⊢
            repeat' (first | refine awp_seq ?_ | refine awp_block ?_ | refine awp_scope ?_ | ((first | refine awp_region_k fun Kn Kp hn hp => ?_ | show AWP _ _ (Code.region 12 _ true) _ _ _; refine awp_drawn_k (id := 12) [6, 7] [] [.win [0], .win [0], .win [0], .win [0], .win [0], .win [0], .eff 0, .eff 1] 2 rfl (by as_aux_lemma => kernel_rfl) fun Kn Kp hn hp => ?_ | show AWP _ _ (Code.region 15 _ true) _ _ _; refine awp_drawn_k (id := 15) [6, 7] [] [.win [0], .win [0], .win [0], .win [0], .win [0], .win [0], .eff 0, .eff 1] 2 rfl (by as_aux_lemma => kernel_rfl) fun Kn Kp hn hp => ?_ | show AWP _ _ (Code.region 16 _ true) _ _ _; refine awp_drawn_k (id := 16) [7] [] [.win [0], .win [0], .win [0], .win [0], .win [0], .win [0], .win [0], .eff 0] 1 rfl (by as_aux_lemma => kernel_rfl) fun Kn Kp hn hp => ?_ | refine oge_intro (by assumption) ?_ | (show AWE _ _ _ _ _ _ _ _ _; first | refine awe_intro (hl _) ?_) | (show AWSF _ _ _ _ _ _ _ _ _ _ _; first | refine awsf_intro (hl _) (fun hrun => ?_)) | (show OGE _ _ _ _ _ _ _; first | refine oge_intro (hl _) ?_) | (show AWSE _ _ _ _ _ _ _ _ _ _ _; first | refine awse_intro (hl _) (fun hrun => ?_)) | (show PGE _ _ _ _ _; first | refine pge_intro (hl _) (fun tm' => ?_))) <;> (simp only [go_sem, Nat.reduceAdd, Nat.reduceSub, Nat.reduceMul, Nat.reduceLeDiff, Nat.reduceLT, Nat.reduceEqDiff, Int.reduceToNat, Int.reduceAdd, Int.reduceMul, Int.reduceSub, Int.reduceLT, Int.reduceLE, Int.reduceEq, Int.reduceNeg, Int.reduceBEq, Int.reduceBNe, ↓reduceIte, reduceCtorEq, hlt, pvRows_len, Int.natCast_zero, List.length_map] <;> try simp (disch := omega) only [wrap_of])) | (refine hn _ _ ?_; clear hn hp Kn Kp) | (refine hp _ _ _ ?_; clear hn hp Kn Kp) | (refine awp_cond rfl (fun hb => ?_) (fun hb => ?_) <;> (try simp only [decide_eq_true_eq, decide_eq_false_iff_not, Bool.not_eq_true', Bool.not_eq_false', Bool.true_eq_false, Bool.false_eq_true, beq_iff_eq, bne_iff_ne, bne_eq_false_iff_eq, beq_eq_false_iff_ne, gt_iff_lt, ge_iff_le, Int.reduceEq, Int.reduceNe, Int.reduceLT, Int.reduceLE, ne_eq, not_true_eq_false, not_false_eq_true] at hb)) | ((first | refine awg_split (fun hb => ?_) (fun hb => ?_) | refine awsg_split (fun hb => ?_) (fun hb => ?_)) <;> have hb0 := hb <;> (try simp only [decide_eq_true_eq, decide_eq_false_iff_not, Bool.not_eq_true', Bool.not_eq_false', Bool.true_eq_false, Bool.false_eq_true, beq_iff_eq, bne_iff_ne, bne_eq_false_iff_eq, beq_eq_false_iff_ne, gt_iff_lt, ge_iff_le, Int.reduceEq, Int.reduceNe, Int.reduceLT, Int.reduceLE, ne_eq, not_true_eq_false, not_false_eq_true] at hb0) <;> (try simp only [beq_true, beq_false, Bool.not_eq_true', Bool.not_eq_false'] at hb) <;> (simp only [go_sem, Nat.reduceAdd, Nat.reduceSub, Nat.reduceMul, Nat.reduceLeDiff, Nat.reduceLT, Nat.reduceEqDiff, Int.reduceToNat, Int.reduceAdd, Int.reduceMul, Int.reduceSub, Int.reduceLT, Int.reduceLE, Int.reduceEq, Int.reduceNeg, Int.reduceBEq, Int.reduceBNe, ↓reduceIte, reduceCtorEq, hlt, pvRows_len, Int.natCast_zero, List.length_map, hb, hb0] <;> try simp (disch := omega) only [wrap_of])) | (refine And.intro ?_ ?_) | refine awp_skip ?_ | refine awp_ret ?_ | refine awp_exit ?_ | refine awp_label ?_ | refine awloop_step ?_ | fail)
            (refine panX ?_; try exact True.intro)
        · simp only [node, outU]
          repeat' (first | refine awp_seq ?_ | refine awp_block ?_ | refine awp_scope ?_ | ((first | refine awp_region_k fun Kn Kp hn hp => ?_ | show AWP _ _ (Code.region 12 _ true) _ _ _; refine awp_drawn_k (id := 12) [6, 7] [] [.win [0], .win [0], .win [0], .win [0], .win [0], .win [0], .eff 0, .eff 1] 2 rfl (by as_aux_lemma => kernel_rfl) fun Kn Kp hn hp => ?_ | show AWP _ _ (Code.region 15 _ true) _ _ _; refine awp_drawn_k (id := 15) [6, 7] [] [.win [0], .win [0], .win [0], .win [0], .win [0], .win [0], .eff 0, .eff 1] 2 rfl (by as_aux_lemma => kernel_rfl) fun Kn Kp hn hp => ?_ | show AWP _ _ (Code.region 16 _ true) _ _ _; refine awp_drawn_k (id := 16) [7] [] [.win [0], .win [0], .win [0], .win [0], .win [0], .win [0], .win [0], .eff 0] 1 rfl (by as_aux_lemma => kernel_rfl) fun Kn Kp hn hp => ?_ | refine oge_intro (by assumption) ?_ | (show AWE _ _ _ _ _ _ _ _ _; first | refine awe_intro (must_pan _ _) ?_) | (show AWSF _ _ _ _ _ _ _ _ _ _ _; first | refine awsf_intro (must_pan _ _) (fun hrun => ?_)) | (show OGE _ _ _ _ _ _ _; first | refine oge_intro (must_pan _ _) ?_) | (show AWSE _ _ _ _ _ _ _ _ _ _ _; first | refine awse_intro (must_pan _ _) (fun hrun => ?_)) | (show PGE _ _ _ _ _; first | refine pge_intro (must_pan _ _) (fun tm' => ?_))) <;> (simp only [go_sem, Nat.reduceAdd, Nat.reduceSub, Nat.reduceMul, Nat.reduceLeDiff, Nat.reduceLT, Nat.reduceEqDiff, Int.reduceToNat, Int.reduceAdd, Int.reduceMul, Int.reduceSub, Int.reduceLT, Int.reduceLE, Int.reduceEq, Int.reduceNeg, Int.reduceBEq, Int.reduceBNe, ↓reduceIte, reduceCtorEq, hlt, pvRows_len, Int.natCast_zero, Int.natCast_one, List.length_map] <;> try simp (disch := omega) only [wrap_of])) | (refine hn _ _ ?_; clear hn hp Kn Kp) | (refine hp _ _ _ ?_; clear hn hp Kn Kp) | (refine awp_cond rfl (fun hb => ?_) (fun hb => ?_) <;> (try simp only [decide_eq_true_eq, decide_eq_false_iff_not, Bool.not_eq_true', Bool.not_eq_false', Bool.true_eq_false, Bool.false_eq_true, beq_iff_eq, bne_iff_ne, bne_eq_false_iff_eq, beq_eq_false_iff_ne, gt_iff_lt, ge_iff_le, Int.reduceEq, Int.reduceNe, Int.reduceLT, Int.reduceLE, ne_eq, not_true_eq_false, not_false_eq_true] at hb)) | ((first | refine awg_split (fun hb => ?_) (fun hb => ?_) | refine awsg_split (fun hb => ?_) (fun hb => ?_)) <;> have hb0 := hb <;> (try simp only [decide_eq_true_eq, decide_eq_false_iff_not, Bool.not_eq_true', Bool.not_eq_false', Bool.true_eq_false, Bool.false_eq_true, beq_iff_eq, bne_iff_ne, bne_eq_false_iff_eq, beq_eq_false_iff_ne, gt_iff_lt, ge_iff_le, Int.reduceEq, Int.reduceNe, Int.reduceLT, Int.reduceLE, ne_eq, not_true_eq_false, not_false_eq_true] at hb0) <;> (try simp only [beq_true, beq_false, Bool.not_eq_true', Bool.not_eq_false'] at hb) <;> (simp only [go_sem, Nat.reduceAdd, Nat.reduceSub, Nat.reduceMul, Nat.reduceLeDiff, Nat.reduceLT, Nat.reduceEqDiff, Int.reduceToNat, Int.reduceAdd, Int.reduceMul, Int.reduceSub, Int.reduceLT, Int.reduceLE, Int.reduceEq, Int.reduceNeg, Int.reduceBEq, Int.reduceBNe, ↓reduceIte, reduceCtorEq, hlt, pvRows_len, Int.natCast_zero, Int.natCast_one, List.length_map, hb, hb0] <;> try simp (disch := omega) only [wrap_of])) | (refine And.intro ?_ ?_) | refine awp_skip ?_ | refine awp_ret ?_ | refine awp_exit ?_ | refine awp_label ?_ | refine awloop_step ?_ | fail)
          all_goals first
            | omega
            | ((refine panX ?_; try exact True.intro))
        · simp only [node]
          have ha := h3 a (by simp)
          have hb0 := h3 b (by simp)
          by_cases hop : 4 ≤ e.op ∧ e.op ≤ 10
          · rw [if_pos hop]
            obtain ⟨hop1, hop2⟩ := hop
            by_cases h6 : e.op = 6
            · by_cases hk : (a.add b 1).ok
              · have hcb : comb e.op a b = .ok (a.add b 1) := by simp [comb, h6, hk]
                rw [hcb]
                simp only [outU]
                (have rr1 := dr108_12_U7; have rr2 := dr108_15_U7; have rr3 := dr108_16_U7; have ww1 := hlt; have ww2 := @pvRows.eq_1; have ww3 := @pvRows_len; have ww4 := h6; have cc1 := fun z1 z2 => must_run z1 z2; have cc2 := fun z1 => plus_ok a b 1 ha hb0 (.inl rfl) hk z1; refine wk ?_; clear rr1 rr2 rr3 ww1 ww2 ww3 ww4 cc1 cc2; (repeat' first | exact True.intro | refine Lf.mk ?_ ?_); all_goals intro hP)
                (refine resX ?_; try exact True.intro)
              · have hcb : comb e.op a b = .error 13 := by simp [comb, h6, hk]
                rw [hcb]
                simp only [outU]
                repeat' (first | refine awp_seq ?_ | refine awp_block ?_ | refine awp_scope ?_ | ((first | refine awp_region_k fun Kn Kp hn hp => ?_ | show AWP _ _ (Code.region 12 _ true) _ _ _; refine awp_drawn_k (id := 12) [6, 7] [6] [.win [0], .win [0], .win [0], .win [0], .win [0], .win [0], .pan [0], .skip] 2 rfl (by as_aux_lemma => kernel_rfl) fun Kn Kp hn hp => ?_ | show AWP _ _ (Code.region 15 _ true) _ _ _; refine awp_drawn_k (id := 15) [6, 7] [] [.win [0], .win [0], .win [0], .win [0], .win [0], .win [0], .eff 0, .eff 1] 2 rfl (by as_aux_lemma => kernel_rfl) fun Kn Kp hn hp => ?_ | show AWP _ _ (Code.region 16 _ true) _ _ _; refine awp_drawn_k (id := 16) [7] [] [.win [0], .win [0], .win [0], .win [0], .win [0], .win [0], .win [0], .eff 0] 1 rfl (by as_aux_lemma => kernel_rfl) fun Kn Kp hn hp => ?_ | refine oge_intro (by assumption) ?_ | (show AWE _ _ _ _ _ _ _ _ _; first | refine awe_intro (must_run _ _) ?_ | refine awe_intro (plus_bad a b 1 ha hb0 (.inl rfl) hk _) ?_) | (show AWSF _ _ _ _ _ _ _ _ _ _ _; first | refine awsf_intro (must_run _ _) (fun hrun => ?_) | refine awsf_intro (plus_bad a b 1 ha hb0 (.inl rfl) hk _) (fun hrun => ?_)) | (show OGE _ _ _ _ _ _ _; first | refine oge_intro (must_run _ _) ?_ | refine oge_intro (plus_bad a b 1 ha hb0 (.inl rfl) hk _) ?_) | (show AWSE _ _ _ _ _ _ _ _ _ _ _; first | refine awse_intro (must_run _ _) (fun hrun => ?_) | refine awse_intro (plus_bad a b 1 ha hb0 (.inl rfl) hk _) (fun hrun => ?_)) | (show PGE _ _ _ _ _; first | refine pge_intro (must_run _ _) (fun tm' => ?_) | refine pge_intro (plus_bad a b 1 ha hb0 (.inl rfl) hk _) (fun tm' => ?_))) <;> (simp only [go_sem, Nat.reduceAdd, Nat.reduceSub, Nat.reduceMul, Nat.reduceLeDiff, Nat.reduceLT, Nat.reduceEqDiff, Int.reduceToNat, Int.reduceAdd, Int.reduceMul, Int.reduceSub, Int.reduceLT, Int.reduceLE, Int.reduceEq, Int.reduceNeg, Int.reduceBEq, Int.reduceBNe, ↓reduceIte, reduceCtorEq, hlt, pvRows, pvRows_len, h6, List.length_map] <;> try simp (disch := omega) only [wrap_of])) | (refine hn _ _ ?_; clear hn hp Kn Kp) | (refine hp _ _ _ ?_; clear hn hp Kn Kp) | (refine awp_cond rfl (fun hb => ?_) (fun hb => ?_) <;> (try simp only [decide_eq_true_eq, decide_eq_false_iff_not, Bool.not_eq_true', Bool.not_eq_false', Bool.true_eq_false, Bool.false_eq_true, beq_iff_eq, bne_iff_ne, bne_eq_false_iff_eq, beq_eq_false_iff_ne, gt_iff_lt, ge_iff_le, Int.reduceEq, Int.reduceNe, Int.reduceLT, Int.reduceLE, ne_eq, not_true_eq_false, not_false_eq_true] at hb)) | ((first | refine awg_split (fun hb => ?_) (fun hb => ?_) | refine awsg_split (fun hb => ?_) (fun hb => ?_)) <;> have hb0 := hb <;> (try simp only [decide_eq_true_eq, decide_eq_false_iff_not, Bool.not_eq_true', Bool.not_eq_false', Bool.true_eq_false, Bool.false_eq_true, beq_iff_eq, bne_iff_ne, bne_eq_false_iff_eq, beq_eq_false_iff_ne, gt_iff_lt, ge_iff_le, Int.reduceEq, Int.reduceNe, Int.reduceLT, Int.reduceLE, ne_eq, not_true_eq_false, not_false_eq_true] at hb0) <;> (try simp only [beq_true, beq_false, Bool.not_eq_true', Bool.not_eq_false'] at hb) <;> (simp only [go_sem, Nat.reduceAdd, Nat.reduceSub, Nat.reduceMul, Nat.reduceLeDiff, Nat.reduceLT, Nat.reduceEqDiff, Int.reduceToNat, Int.reduceAdd, Int.reduceMul, Int.reduceSub, Int.reduceLT, Int.reduceLE, Int.reduceEq, Int.reduceNeg, Int.reduceBEq, Int.reduceBNe, ↓reduceIte, reduceCtorEq, hlt, pvRows, pvRows_len, h6, List.length_map, hb, hb0] <;> try simp (disch := omega) only [wrap_of])) | (refine And.intro ?_ ?_) | refine awp_skip ?_ | refine awp_ret ?_ | refine awp_exit ?_ | refine awp_label ?_ | refine awloop_step ?_ | fail)
                (refine panX ?_; try exact True.intro)
            · have g6 : (e.op == 6) = false := by simpa using h6
              by_cases h78 : e.op = 7 ∨ e.op = 8
              · rcases h78 with hs8 | hs8
                all_goals
                  by_cases hk : (a.add b (-1)).ok
                  · have hcb : comb e.op a b = .ok (a.add b (-1)) := by simp [comb, hs8, hk]
                    rw [hcb]
                    simp only [outU]
                    (have rr1 := dr108_12_U7; have rr2 := dr108_15_U7; have rr3 := dr108_16_U7; have ww1 := hlt; have ww2 := @pvRows.eq_1; have ww3 := @pvRows_len; have ww4 := hs8; have cc1 := fun z1 z2 => must_run z1 z2; have cc2 := fun z1 => plus_ok a b (-1) ha hb0 (.inr rfl) hk z1; refine wk ?_; clear rr1 rr2 rr3 ww1 ww2 ww3 ww4 cc1 cc2; (repeat' first | exact True.intro | refine Lf.mk ?_ ?_); all_goals intro hP)
                    (refine resX ?_; try exact True.intro)
                  · have hcb : comb e.op a b = .error 13 := by simp [comb, hs8, hk]
                    rw [hcb]
                    simp only [outU]
                    repeat' (first | refine awp_seq ?_ | refine awp_block ?_ | refine awp_scope ?_ | ((first | refine awp_region_k fun Kn Kp hn hp => ?_ | show AWP _ _ (Code.region 12 _ true) _ _ _; refine awp_drawn_k (id := 12) [6, 7] [] [.win [0], .win [0], .win [0], .win [0], .win [0], .win [0], .eff 0, .eff 1] 2 rfl (by as_aux_lemma => kernel_rfl) fun Kn Kp hn hp => ?_ | show AWP _ _ (Code.region 15 _ true) _ _ _; refine awp_drawn_k (id := 15) [6, 7] [6] [.win [0], .win [0], .win [0], .win [0], .win [0], .win [0], .pan [0], .skip] 2 rfl (by as_aux_lemma => kernel_rfl) fun Kn Kp hn hp => ?_ | show AWP _ _ (Code.region 16 _ true) _ _ _; refine awp_drawn_k (id := 16) [7] [] [.win [0], .win [0], .win [0], .win [0], .win [0], .win [0], .win [0], .eff 0] 1 rfl (by as_aux_lemma => kernel_rfl) fun Kn Kp hn hp => ?_ | refine oge_intro (by assumption) ?_ | (show AWE _ _ _ _ _ _ _ _ _; first | refine awe_intro (must_run _ _) ?_ | refine awe_intro (plus_bad a b (-1) ha hb0 (.inr rfl) hk _) ?_) | (show AWSF _ _ _ _ _ _ _ _ _ _ _; first | refine awsf_intro (must_run _ _) (fun hrun => ?_) | refine awsf_intro (plus_bad a b (-1) ha hb0 (.inr rfl) hk _) (fun hrun => ?_)) | (show OGE _ _ _ _ _ _ _; first | refine oge_intro (must_run _ _) ?_ | refine oge_intro (plus_bad a b (-1) ha hb0 (.inr rfl) hk _) ?_) | (show AWSE _ _ _ _ _ _ _ _ _ _ _; first | refine awse_intro (must_run _ _) (fun hrun => ?_) | refine awse_intro (plus_bad a b (-1) ha hb0 (.inr rfl) hk _) (fun hrun => ?_)) | (show PGE _ _ _ _ _; first | refine pge_intro (must_run _ _) (fun tm' => ?_) | refine pge_intro (plus_bad a b (-1) ha hb0 (.inr rfl) hk _) (fun tm' => ?_))) <;> (simp only [go_sem, Nat.reduceAdd, Nat.reduceSub, Nat.reduceMul, Nat.reduceLeDiff, Nat.reduceLT, Nat.reduceEqDiff, Int.reduceToNat, Int.reduceAdd, Int.reduceMul, Int.reduceSub, Int.reduceLT, Int.reduceLE, Int.reduceEq, Int.reduceNeg, Int.reduceBEq, Int.reduceBNe, ↓reduceIte, reduceCtorEq, hlt, pvRows, pvRows_len, hs8, List.length_map] <;> try simp (disch := omega) only [wrap_of])) | (refine hn _ _ ?_; clear hn hp Kn Kp) | (refine hp _ _ _ ?_; clear hn hp Kn Kp) | (refine awp_cond rfl (fun hb => ?_) (fun hb => ?_) <;> (try simp only [decide_eq_true_eq, decide_eq_false_iff_not, Bool.not_eq_true', Bool.not_eq_false', Bool.true_eq_false, Bool.false_eq_true, beq_iff_eq, bne_iff_ne, bne_eq_false_iff_eq, beq_eq_false_iff_ne, gt_iff_lt, ge_iff_le, Int.reduceEq, Int.reduceNe, Int.reduceLT, Int.reduceLE, ne_eq, not_true_eq_false, not_false_eq_true] at hb)) | ((first | refine awg_split (fun hb => ?_) (fun hb => ?_) | refine awsg_split (fun hb => ?_) (fun hb => ?_)) <;> have hb0 := hb <;> (try simp only [decide_eq_true_eq, decide_eq_false_iff_not, Bool.not_eq_true', Bool.not_eq_false', Bool.true_eq_false, Bool.false_eq_true, beq_iff_eq, bne_iff_ne, bne_eq_false_iff_eq, beq_eq_false_iff_ne, gt_iff_lt, ge_iff_le, Int.reduceEq, Int.reduceNe, Int.reduceLT, Int.reduceLE, ne_eq, not_true_eq_false, not_false_eq_true] at hb0) <;> (try simp only [beq_true, beq_false, Bool.not_eq_true', Bool.not_eq_false'] at hb) <;> (simp only [go_sem, Nat.reduceAdd, Nat.reduceSub, Nat.reduceMul, Nat.reduceLeDiff, Nat.reduceLT, Nat.reduceEqDiff, Int.reduceToNat, Int.reduceAdd, Int.reduceMul, Int.reduceSub, Int.reduceLT, Int.reduceLE, Int.reduceEq, Int.reduceNeg, Int.reduceBEq, Int.reduceBNe, ↓reduceIte, reduceCtorEq, hlt, pvRows, pvRows_len, hs8, List.length_map, hb, hb0] <;> try simp (disch := omega) only [wrap_of])) | (refine And.intro ?_ ?_) | refine awp_skip ?_ | refine awp_ret ?_ | refine awp_exit ?_ | refine awp_label ?_ | refine awloop_step ?_ | fail)
                    (refine panX ?_; try exact True.intro)
              · have g7 : (e.op == 7) = false := by simp; omega
                have g8 : (e.op == 8) = false := by simp; omega
                by_cases hab : a = b
                · subst hab
                  have hcb : comb e.op a a = .ok a := by simp [comb, h6, h78]
                  rw [hcb]
                  simp only [outU]
                  (have rr1 := dr108_12_U7; have rr2 := dr108_15_U7; have rr3 := dr108_16_U7; have ww1 := hlt; have ww2 := @pvRows.eq_1; have ww3 := @pvRows_len; have ww4 := g6; have ww5 := g7; have ww6 := g8; have ww7 := hop1; have ww8 := hop2; have ww9 := @eqg70; have cc1 := fun z1 z2 => must_run z1 z2; refine wk ?_; clear rr1 rr2 rr3 ww1 ww2 ww3 ww4 ww5 ww6 ww7 ww8 ww9 cc1; (repeat' first | exact True.intro | refine Lf.mk ?_ ?_); all_goals intro hP)
                  (refine resX ?_; try exact True.intro)
                · have hcb : comb e.op a b = .error 13 := by simp [comb, h6, h78, hab]
                  have hE := eqU a b
                  rw [decide_eq_false hab] at hE
                  rw [hcb]
                  simp only [outU]
                  repeat' (first | refine awp_seq ?_ | refine awp_block ?_ | refine awp_scope ?_ | ((first | refine awp_region_k fun Kn Kp hn hp => ?_ | show AWP _ _ (Code.region 12 _ true) _ _ _; refine awp_drawn_k (id := 12) [6, 7] [] [.win [0], .win [0], .win [0], .win [0], .win [0], .win [0], .eff 0, .eff 1] 2 rfl (by as_aux_lemma => kernel_rfl) fun Kn Kp hn hp => ?_ | show AWP _ _ (Code.region 15 _ true) _ _ _; refine awp_drawn_k (id := 15) [6, 7] [] [.win [0], .win [0], .win [0], .win [0], .win [0], .win [0], .eff 0, .eff 1] 2 rfl (by as_aux_lemma => kernel_rfl) fun Kn Kp hn hp => ?_ | show AWP _ _ (Code.region 16 _ true) _ _ _; refine awp_drawn_k (id := 16) [7] [7] [.win [0], .win [0], .win [0], .win [0], .win [0], .win [0], .win [0], .pan [0]] 1 rfl (by as_aux_lemma => kernel_rfl) fun Kn Kp hn hp => ?_ | refine oge_intro (by assumption) ?_ | (show AWE _ _ _ _ _ _ _ _ _; first | refine awe_intro (must_run _ _) ?_ | refine awe_intro (must_pan _ _) ?_) | (show AWSF _ _ _ _ _ _ _ _ _ _ _; first | refine awsf_intro (must_run _ _) (fun hrun => ?_) | refine awsf_intro (must_pan _ _) (fun hrun => ?_)) | (show OGE _ _ _ _ _ _ _; first | refine oge_intro (must_run _ _) ?_ | refine oge_intro (must_pan _ _) ?_) | (show AWSE _ _ _ _ _ _ _ _ _ _ _; first | refine awse_intro (must_run _ _) (fun hrun => ?_) | refine awse_intro (must_pan _ _) (fun hrun => ?_)) | (show PGE _ _ _ _ _; first | refine pge_intro (must_run _ _) (fun tm' => ?_) | refine pge_intro (must_pan _ _) (fun tm' => ?_))) <;> (simp only [go_sem, Nat.reduceAdd, Nat.reduceSub, Nat.reduceMul, Nat.reduceLeDiff, Nat.reduceLT, Nat.reduceEqDiff, Int.reduceToNat, Int.reduceAdd, Int.reduceMul, Int.reduceSub, Int.reduceLT, Int.reduceLE, Int.reduceEq, Int.reduceNeg, Int.reduceBEq, Int.reduceBNe, ↓reduceIte, reduceCtorEq, hlt, pvRows, pvRows_len, g6, g7, g8, hop1, hop2, eqg70, hE, List.length_map] <;> try simp (disch := omega) only [wrap_of])) | (refine hn _ _ ?_; clear hn hp Kn Kp) | (refine hp _ _ _ ?_; clear hn hp Kn Kp) | (refine awp_cond rfl (fun hb => ?_) (fun hb => ?_) <;> (try simp only [decide_eq_true_eq, decide_eq_false_iff_not, Bool.not_eq_true', Bool.not_eq_false', Bool.true_eq_false, Bool.false_eq_true, beq_iff_eq, bne_iff_ne, bne_eq_false_iff_eq, beq_eq_false_iff_ne, gt_iff_lt, ge_iff_le, Int.reduceEq, Int.reduceNe, Int.reduceLT, Int.reduceLE, ne_eq, not_true_eq_false, not_false_eq_true] at hb)) | ((first | refine awg_split (fun hb => ?_) (fun hb => ?_) | refine awsg_split (fun hb => ?_) (fun hb => ?_)) <;> have hb0 := hb <;> (try simp only [decide_eq_true_eq, decide_eq_false_iff_not, Bool.not_eq_true', Bool.not_eq_false', Bool.true_eq_false, Bool.false_eq_true, beq_iff_eq, bne_iff_ne, bne_eq_false_iff_eq, beq_eq_false_iff_ne, gt_iff_lt, ge_iff_le, Int.reduceEq, Int.reduceNe, Int.reduceLT, Int.reduceLE, ne_eq, not_true_eq_false, not_false_eq_true] at hb0) <;> (try simp only [beq_true, beq_false, Bool.not_eq_true', Bool.not_eq_false'] at hb) <;> (simp only [go_sem, Nat.reduceAdd, Nat.reduceSub, Nat.reduceMul, Nat.reduceLeDiff, Nat.reduceLT, Nat.reduceEqDiff, Int.reduceToNat, Int.reduceAdd, Int.reduceMul, Int.reduceSub, Int.reduceLT, Int.reduceLE, Int.reduceEq, Int.reduceNeg, Int.reduceBEq, Int.reduceBNe, ↓reduceIte, reduceCtorEq, hlt, pvRows, pvRows_len, g6, g7, g8, hop1, hop2, eqg70, hE, List.length_map, hb, hb0] <;> try simp (disch := omega) only [wrap_of])) | (refine And.intro ?_ ?_) | refine awp_skip ?_ | refine awp_ret ?_ | refine awp_exit ?_ | refine awp_label ?_ | refine awloop_step ?_ | fail)
                  (refine panX ?_; try exact True.intro)
          · rw [if_neg hop]
            simp only [outU]
            repeat' (first | refine awp_seq ?_ | refine awp_block ?_ | refine awp_scope ?_ | ((first | refine awp_region_k fun Kn Kp hn hp => ?_ | show AWP _ _ (Code.region 12 _ true) _ _ _; refine awp_drawn_k (id := 12) [6, 7] [] [.win [0], .win [0], .win [0], .win [0], .win [0], .win [0], .eff 0, .eff 1] 2 rfl (by as_aux_lemma => kernel_rfl) fun Kn Kp hn hp => ?_ | show AWP _ _ (Code.region 15 _ true) _ _ _; refine awp_drawn_k (id := 15) [6, 7] [] [.win [0], .win [0], .win [0], .win [0], .win [0], .win [0], .eff 0, .eff 1] 2 rfl (by as_aux_lemma => kernel_rfl) fun Kn Kp hn hp => ?_ | show AWP _ _ (Code.region 16 _ true) _ _ _; refine awp_drawn_k (id := 16) [7] [] [.win [0], .win [0], .win [0], .win [0], .win [0], .win [0], .win [0], .eff 0] 1 rfl (by as_aux_lemma => kernel_rfl) fun Kn Kp hn hp => ?_ | refine oge_intro (by assumption) ?_) <;> (simp only [go_sem, Nat.reduceAdd, Nat.reduceSub, Nat.reduceMul, Nat.reduceLeDiff, Nat.reduceLT, Nat.reduceEqDiff, Int.reduceToNat, Int.reduceAdd, Int.reduceMul, Int.reduceSub, Int.reduceLT, Int.reduceLE, Int.reduceEq, Int.reduceNeg, Int.reduceBEq, Int.reduceBNe, ↓reduceIte, reduceCtorEq, hlt, pvRows_len, List.length_map] <;> try simp (disch := omega) only [wrap_of])) | (refine hn _ _ ?_; clear hn hp Kn Kp) | (refine hp _ _ _ ?_; clear hn hp Kn Kp) | (refine awp_cond rfl (fun hb => ?_) (fun hb => ?_) <;> (try simp only [decide_eq_true_eq, decide_eq_false_iff_not, Bool.not_eq_true', Bool.not_eq_false', Bool.true_eq_false, Bool.false_eq_true, beq_iff_eq, bne_iff_ne, bne_eq_false_iff_eq, beq_eq_false_iff_ne, gt_iff_lt, ge_iff_le, Int.reduceEq, Int.reduceNe, Int.reduceLT, Int.reduceLE, ne_eq, not_true_eq_false, not_false_eq_true] at hb)) | ((first | refine awg_split (fun hb => ?_) (fun hb => ?_) | refine awsg_split (fun hb => ?_) (fun hb => ?_) | refine awe_cases (must_c _ _ _) (fun hb => ?_) (fun hb => ?_)) <;> have hb0 := hb <;> (try simp only [decide_eq_true_eq, decide_eq_false_iff_not, Bool.not_eq_true', Bool.not_eq_false', Bool.true_eq_false, Bool.false_eq_true, beq_iff_eq, bne_iff_ne, bne_eq_false_iff_eq, beq_eq_false_iff_ne, gt_iff_lt, ge_iff_le, Int.reduceEq, Int.reduceNe, Int.reduceLT, Int.reduceLE, ne_eq, not_true_eq_false, not_false_eq_true] at hb0) <;> (try simp only [beq_true, beq_false, Bool.not_eq_true', Bool.not_eq_false'] at hb) <;> (simp only [go_sem, Nat.reduceAdd, Nat.reduceSub, Nat.reduceMul, Nat.reduceLeDiff, Nat.reduceLT, Nat.reduceEqDiff, Int.reduceToNat, Int.reduceAdd, Int.reduceMul, Int.reduceSub, Int.reduceLT, Int.reduceLE, Int.reduceEq, Int.reduceNeg, Int.reduceBEq, Int.reduceBNe, ↓reduceIte, reduceCtorEq, hlt, pvRows_len, List.length_map, hb, hb0] <;> try simp (disch := omega) only [wrap_of])) | (refine And.intro ?_ ?_) | refine awp_skip ?_ | refine awp_ret ?_ | refine awp_exit ?_ | refine awp_label ?_ | refine awloop_step ?_ | fail)
            all_goals first
              | omega
              | ((refine panX ?_; try exact True.intro))
        · simp only [node, outU]
          have hne0 : (((rs.length + 3 : Nat) : Int) == 0) = false := by simp; omega
          have hne2 : (((rs.length + 3 : Nat) : Int) == 2) = false := by simp; omega
          (have rr1 := dr108_12_U7; have rr2 := dr108_15_U7; have rr3 := dr108_16_U7; have ww1 := hlt; have ww2 := @pvRows_len; have ww3 := hne0; have ww4 := hne2; have cc1 := fun z1 z2 => must_pan z1 z2; refine wk ?_; clear rr1 rr2 rr3 ww1 ww2 ww3 ww4 cc1; (repeat' first | exact True.intro | refine Lf.mk ?_ ?_); all_goals intro hP)
          (refine panX ?_; try exact True.intro)
      | cons k rest =>
        obtain ⟨hk, hlt, hd, hm⟩ := drop_cons hr
        rw [hr] at h4
        have hc := fun H0 => ih k hm H0 (by have := nodes_mem hm; omega)
        cases hik : inf vs k with
        | error x =>
          simp only [hik, outU] at hc
          simp only [infL, hik] at h4
          have hinf : inf vs e = .error x := by rw [inf_eq, h4]
          rw [hinf]
          (have rr1 := dr108_12_U7; have rr2 := dr108_15_U7; have rr3 := dr108_16_U7; have ww1 := hlt; have ww2 := hk; have ww3 := @encE_eq; have cc1 := fun z1 => hc z1; refine wk ?_; clear rr1 rr2 rr3 ww1 ww2 ww3 cc1; (repeat' first | exact True.intro | refine Lf.mk ?_ ?_); all_goals intro hP)
          (refine panX ?_; try exact True.intro)
        | ok u =>
          simp only [hik, outU] at hc
          simp only [infL, hik] at h4
          (have rr1 := dr108_12_U7; have rr2 := dr108_15_U7; have rr3 := dr108_16_U7; have ww1 := hlt; have ww2 := hk; have ww3 := @encE_eq; have ww4 := @pvRows_len; have ww5 := hf1; have ww6 := hf2; have cc1 := fun z1 => hc z1; refine wk ?_; clear rr1 rr2 rr3 ww1 ww2 ww3 ww4 ww5 ww6 cc1; (repeat' first | exact True.intro | refine Lf.mk ?_ ?_); all_goals intro hP)
          refine ⟨(i + 1, acc ++ [u]), by simp only; omega, ⟨by simp [h1], by simp only; omega, ?_, ?_⟩, ?_⟩
          · intro v hv
            rcases List.mem_append.1 hv with hv | hv
            · exact h3 v hv
            · simp only [List.mem_singleton] at hv; subst hv; exact inf_ok vs hvs k _ hik
          · simp only
            rw [hd, h4]
            cases infL vs rest <;> simp
          · refine Wk.keepE 3 1 ?_ ?_ ?_ ?_
            · simp [pvRows]
            · simp
            · simp only [List.mem_cons, List.not_mem_nil, or_false, forall_eq_or_imp, forall_eq]
              refine ⟨?_, ?_, under_pvRows _⟩
              · simp [AObj.under, AV.under]
              · simp [AObj.under, AV.under]
            · simp only [List.map_cons, List.map_nil, AV.low, Fgt, true_or, or_true, and_true, true_and]
              simp
theorem dr71_8_U8 : Drawn Tryz.prog 8 (regOps 8 ((Tryz.f71.body).getD .skip)) [6, 7, 10] [] [.win [0, 1, 2], .win [0, 1], .win [0, 1], .win [0, 1], .win [0, 1], .win [0], .eff 0, .eff 1, .win [2], .win [2], .eff 2] 3 [] := ⟨rfl, by as_aux_lemma => kernel_rfl⟩
def startAns (l : List Vr) : AV := match ksL l with
  | some vs => .tup [chk vs, .b (decide (l.length ≤ 12))]
  | none => .tup [.pv (.sc (.pointer none)), .b false]
theorem start_run (l : List Vr) (hl : l.length ≤ 1000000) (H0 : List AObj) : ARun Tryz.prog 71 [.rs 5 (l.map encV)] H0 (.ret (startAns l) H0) := by
  (refine ARun.intro Tryz.func71 rfl Tryz.call71 Tryz.ntmps71 Tryz.results71 ?_; simp only [List.length_cons, List.length_nil, List.length_map, Nat.reduceAdd, Nat.reduceSub, List.replicate_succ, List.replicate_zero, List.cons_append, List.nil_append])
  (refine wk ?_; (repeat' first | exact True.intro | refine Lf.mk ?_ ?_); all_goals intro hP)
  refine awp_loop_ind (σ := Nat × List Un) (fun s => l.length - s.1)
    (fun s => s.2.length = s.1 ∧ s.1 ≤ l.length ∧ ksL l = match ksL (l.drop s.1) with | some r => some (s.2 ++ r) | none => none)
    (fun s => (.rs 5 (l.map encV) :: .any :: .any :: .any :: .p H0.length 0 :: .any :: .any :: .any :: .any :: .any :: .any :: .rs 5 (l.map encV) :: .i l.length :: .i s.1 :: .any :: .any :: .any :: .any :: .any :: .any :: .any :: .any :: .any :: .any :: .any :: .any :: .any :: .any :: .any :: .any :: .any :: .any :: .any :: .any :: .any :: .any :: .any :: .any :: .any :: .any :: []))
    (fun s => H0 ++ [.cells 109 [.os (H0.length + 1) 0 s.2.length s.2.length], .arr 111 3 (pvRows (s.2.map fun u => cU u))]) (0, [])
    ⟨rfl, Nat.zero_le _, by simp only [List.drop_zero, List.nil_append]; cases ksL l <;> rfl⟩
    ?_ ?_
  · have hg := Wk.ghostO (H0 := H0) (tm := (.rs 5 (l.map encV) :: .any :: .any :: .any :: .p H0.length 0 :: .any :: .any :: .any :: .any :: .any :: .any :: .rs 5 (l.map encV) :: .i l.length :: .i 0 :: .any :: .any :: .any :: .any :: .any :: .any :: .any :: .any :: .any :: .any :: .any :: .any :: .any :: .any :: .any :: .any :: .any :: .any :: .any :: .any :: .any :: .any :: .any :: .any :: .any :: .any :: [])) (H := H0 ++ [.cells 109 [.pv (.sc (.slice none 0 0))]]) H0.length 0 111 (sz := 3) (tt := 109) (cs := [.pv (.sc (.slice none 0 0))]) (by omega) (by simp) rfl
    refine Wk.trans (tm' := (.rs 5 (l.map encV) :: .any :: .any :: .any :: .p H0.length 0 :: .any :: .any :: .any :: .any :: .any :: .any :: .rs 5 (l.map encV) :: .i l.length :: .i 0 :: .any :: .any :: .any :: .any :: .any :: .any :: .any :: .any :: .any :: .any :: .any :: .any :: .any :: .any :: .any :: .any :: .any :: .any :: .any :: .any :: .any :: .any :: .any :: .any :: .any :: .any :: [])) (by (refine fgtX ?_; try exact True.intro)) ?_
    simpa [pvRows] using hg
  · rintro ⟨i, acc⟩ ⟨h1, h2, h4⟩
    simp only at h1 h2 h4 ⊢
    have hf1 : (acc.length + 1) * 24 ≤ 140737488355328 := by omega
    have hf2 : acc.length + 1 ≤ 9223372036854775807 := by omega
    cases hr : l.drop i with
    | nil =>
      have hlt := drop_nil hr
      rw [hr] at h4
      simp only [ksL, List.append_nil] at h4
      (have rr1 := dr71_8_U8; have ww1 := hlt; refine wk ?_; clear rr1 ww1; (repeat' first | exact True.intro | refine Lf.mk ?_ ?_); all_goals intro hP)
      unfold startAns
      rw [h4]
      have e1 : AV.toPVr (H0 ++ [.cells 109 [.os (H0.length + 1) 0 acc.length acc.length], .arr 111 3 (pvRows (acc.map fun u => cU u))]) H0.length 1 [.os (H0.length + 1) 0 acc.length acc.length] = some [.rs 3 (acc.map fun u => cU u)] := by
        have e2 : ((pvRows (acc.map fun u => cU u)).drop 0).take acc.length = pvRows (acc.map fun u => cU u) := by
          rw [List.drop_zero, List.take_of_length_le (by simp [pvRows])]
        simp only [AV.toPVr, AV.toPV, getOk, List.getElem?_cons_succ, List.getElem?_cons_zero, pvRows_len, List.length_map, true_and, show H0.length ≤ H0.length + 1 from by omega, if_true, e2]
        simp only [pvRows, toPVs_pvs, Option.map_some]
      (refine resX ?_; try exact True.intro)
      simp only [getO0, e1, List.drop_zero]
      have : decide (l.length ≤ 12) = decide ((l.length : Int) ≤ 12) := by
        apply decide_eq_decide.2; omega
      rw [this]
    | cons k rest =>
      obtain ⟨hk, hlt, hd, hm⟩ := drop_cons hr
      rw [hr] at h4
      cases hik : ofK k.unit with
      | none =>
        simp only [ksL, hik] at h4
        (have rr1 := dr71_8_U8; have ww1 := hlt; have ww2 := hk; have ww3 := @encV_eq; have ww4 := @ofAns.eq_1; have ww5 := hik; have cc1 := fun z1 z2 => of_run z1 z2; refine wk ?_; clear rr1 ww1 ww2 ww3 ww4 ww5 cc1; (repeat' first | exact True.intro | refine Lf.mk ?_ ?_); all_goals intro hP)
        unfold startAns
        rw [h4]
        (refine resX ?_; try exact True.intro)
      | some u =>
        simp only [ksL, hik] at h4
        (have rr1 := dr71_8_U8; have ww1 := hlt; have ww2 := hk; have ww3 := @encV_eq; have ww4 := @ofAns.eq_1; have ww5 := hik; have ww6 := @pvRows_len; have ww7 := hf1; have ww8 := hf2; have cc1 := fun z1 z2 => of_run z1 z2; refine wk ?_; clear rr1 ww1 ww2 ww3 ww4 ww5 ww6 ww7 ww8 cc1; (repeat' first | exact True.intro | refine Lf.mk ?_ ?_); all_goals intro hP)
        refine ⟨(i + 1, acc ++ [u]), by simp only; omega, ⟨by simp [h1], by simp only; omega, ?_⟩, ?_⟩
        · simp only
          rw [hd, h4]
          cases ksL rest <;> simp
        · refine Wk.keepE 2 1 ?_ ?_ ?_ ?_
          · simp [pvRows]
          · simp
          · simp only [List.mem_cons, List.not_mem_nil, or_false, forall_eq_or_imp, forall_eq]
            refine ⟨?_, under_pvRows _⟩
            simp [AObj.under, AV.under]
          · simp only [List.map_cons, List.map_nil, AV.low, Fgt, true_or, or_true, and_true, true_and]
            simp
theorem undAny : Tryz.prog.underlying 20 = some (.interface (Tryz.prog.methodsAt 20)) := by kernel_rfl
theorem undErr : Tryz.prog.underlying 37 = some (.int .i64) := by kernel_rfl
theorem caught_none (id : Nat) (H : List AObj) : ARunD Tryz.prog 88 [.p id 0] H none H := by
  refine ARunD.intro Tryz.func88 rfl Tryz.call88 Tryz.ntmps88 Tryz.results88 ?_
  simp only [List.length_cons, List.length_nil, Nat.reduceAdd, Nat.reduceSub, List.replicate_succ, List.replicate_zero, List.cons_append, List.nil_append, UM.of]
  refine awps_seq ?_
  refine awps_region ?_
  simp only [AWLS, isRecover, if_true, Bool.false_eq_true, if_false, aput, aStep, aev, List.set_cons_zero, List.set_cons_succ, List.getElem?_cons_zero, List.getElem?_cons_succ, Option.getD_some]
  refine awps_seq ?_
  refine awps_region ?_
  simp only [AWLS, isRecover, if_true, Bool.false_eq_true, if_false, aput, aStep, aev, List.set_cons_zero, List.set_cons_succ, List.getElem?_cons_zero, List.getElem?_cons_succ, Option.getD_some, AV.ofV, aEqStep, aEq, AV.sc]
  refine ⟨rfl, .bool false, fun w => ?_, ?_⟩
  · simp [execOp, aRho, aev, AV.conc, eqGuard, binOp, Op.equal, Op.maxDepth, AV.ofV, AV.sc, run_equalIn_nil_nil w 9999 20 undAny]
  · refine awps_cond rfl (fun hb => by cases hb) (fun _ => ?_)
    refine awps_skip ?_
    refine ⟨⟨_, rfl⟩, ⟨H.length, ⟨Nat.le_refl _, Nat.le_refl _, fun id o hid ho => .inl ho⟩, by simp⟩, trivial⟩
theorem caught_pan (id : Nat) (H : List AObj) (x y : Int) (hid : H[id]? = some (.cells 37 [.i y])) : ARunD Tryz.prog 88 [.p id 0] H (some (.pv (.sc (.iface 37 (.int .i64 x))))) (H.set id (.cells 37 [.i x])) := by
  have hlt := (List.getElem?_eq_some_iff.1 hid).1
  refine ARunD.intro Tryz.func88 rfl Tryz.call88 Tryz.ntmps88 Tryz.results88 ?_
  simp only [List.length_cons, List.length_nil, Nat.reduceAdd, Nat.reduceSub, List.replicate_succ, List.replicate_zero, List.cons_append, List.nil_append, UM.of]
  refine awps_seq ?_
  refine awps_region ?_
  simp only [AWLS, isRecover, if_true, Bool.false_eq_true, if_false, aput, aStep, aev, List.set_cons_zero, List.set_cons_succ, List.getElem?_cons_zero, List.getElem?_cons_succ, Option.getD_some]
  refine awps_seq ?_
  refine awps_region ?_
  simp only [AWLS, isRecover, if_true, Bool.false_eq_true, if_false, aput, aStep, aev, List.set_cons_zero, List.set_cons_succ, List.getElem?_cons_zero, List.getElem?_cons_succ, Option.getD_some, AV.ofV, aEqStep, aEq, AV.sc]
  refine ⟨rfl, .bool true, fun w => ?_, ?_⟩
  · simp [execOp, aRho, aev, AV.conc, eqGuard, binOp, Op.equal, Op.maxDepth, AV.ofV, AV.sc, run_equalIn_held_nil w 9999 20 37 _ undAny]
  · refine awps_cond rfl (fun _ => ?_) (fun hb => by cases hb)
    refine awps_region ?_
    simp only [AWLS, isRecover, if_true, Bool.false_eq_true, if_false, aput, aStep, aev, List.set_cons_zero, List.set_cons_succ, List.getElem?_cons_zero, List.getElem?_cons_succ, Option.getD_some, AV.ofV, AV.sc]
    refine ⟨rfl, .int .i64 x, fun w => ?_, ?_⟩
    · simp [execOp, aRho, aev, AV.conc, AV.ofV, AV.sc, Instr.typeAssert, run_underlying undErr]
    · simp only [hid, go_sem, Nat.reduceAdd, Nat.reduceSub, Nat.reduceMul, Nat.reduceLeDiff, Nat.reduceLT, Nat.reduceEqDiff, Int.reduceToNat, Int.reduceAdd, Int.reduceMul, Int.reduceSub, Int.reduceLT, Int.reduceLE, Int.reduceEq, Int.reduceNeg, Int.reduceBEq, Int.reduceBNe, ↓reduceIte, reduceCtorEq]
      have hd : Droppable H (H.set id (.cells 37 [.i x])) H.length := by
        refine ⟨Nat.le_refl _, by rw [List.length_set]; exact Nat.le_refl _, fun id' o hid' ho => ?_⟩
        by_cases e : id = id'
        · subst e
          rw [List.getElem?_set_self hlt] at ho
          simp only [Option.some.injEq] at ho
          subst ho
          refine .inr ?_
          intro c hc
          simp only [List.mem_cons, List.not_mem_nil, or_false] at hc
          subst hc
          simp only [AV.under]
        · rw [List.getElem?_set_ne e] at ho; exact .inl ho
      exact ⟨⟨_, rfl⟩, ⟨H.length, hd, by rw [List.take_of_length_le (by rw [List.length_set]; exact Nat.le_refl _)]⟩, trivial⟩
/-- The answer of 'Of'. -/
def ofA (k : Int) : AV := match ofK k with
  | some u => .tup [.ag (cU u), .i 0]
  | none => .tup [.ag [.i 0, .i 0, .i 0], .i 9]
theorem ROf_run (k : Int) (H0 : List AObj) : ARun Tryz.prog 94 [.i k] H0 (.ret (ofA k) H0) := by
  (refine ARun.intro Tryz.func94 rfl Tryz.call94 Tryz.ntmps94 Tryz.results94 ?_; simp only [List.length_cons, List.length_nil, List.length_map, Nat.reduceAdd, Nat.reduceSub, List.replicate_succ, List.replicate_zero, List.cons_append, List.nil_append])
  (refine wk ?_; (repeat' first | exact True.intro | refine Lf.mk ?_ ?_); all_goals intro hP)
  all_goals
    (refine resX ?_; try exact True.intro)
    simp [ofA, ofK, AV.low, *]
def outB (x : Int) (b : Bool) (H : List AObj) : AOut := match b with
  | true => .ret (.tup []) H
  | false => .pan (.pv (.sc (.iface 37 (.int .i64 x)))) H
theorem small_run : ∀ (N : Nat) (l : List St), manyL l ≤ N → manyL l ≤ 900000 → fineL l → ∀ (H0 : List AObj), ARun Tryz.prog 92 [.rs 13 (l.map encS)] H0 (outB 2 (smSL l) H0) := by
  intro N
  induction N with
  | zero =>
    intro l hN _ _ H0
    have hl : l = [] := by have := len_manyL l; exact List.eq_nil_of_length_eq_zero (by omega)
    subst hl
    simp only [smSL, outB]
    (refine ARun.intro Tryz.func92 rfl Tryz.call92 Tryz.ntmps92 Tryz.results92 ?_; simp only [List.length_cons, List.length_nil, List.length_map, Nat.reduceAdd, Nat.reduceSub, List.replicate_succ, List.replicate_zero, List.cons_append, List.nil_append])
    (refine wk ?_; (repeat' first | exact True.intro | refine Lf.mk ?_ ?_); all_goals intro hP)
    refine awp_loop 1 ?_
    (refine wk ?_; (repeat' first | exact True.intro | refine Lf.mk ?_ ?_); all_goals intro hP)
    (refine resX ?_; try exact True.intro)
  | succ N ihN =>
    intro l hN hM hF H0
    have hlen := len_manyL l
    (refine ARun.intro Tryz.func92 rfl Tryz.call92 Tryz.ntmps92 Tryz.results92 ?_; simp only [List.length_cons, List.length_nil, List.length_map, Nat.reduceAdd, Nat.reduceSub, List.replicate_succ, List.replicate_zero, List.cons_append, List.nil_append])
    (refine wk ?_; (repeat' first | exact True.intro | refine Lf.mk ?_ ?_); all_goals intro hP)
    refine awp_loop_ind (σ := Nat) (fun s => l.length - s) (fun s => s ≤ l.length ∧ smSL l = smSL (l.drop s))
      (fun s => (.any :: .any :: .any :: .any :: .rs 13 (l.map encS) :: .i l.length :: .i s :: .any :: .any :: .any :: .any :: .any :: .any :: .any :: .any :: .any :: .any :: .any :: .any :: .any :: .any :: .any :: .any :: .any :: .any :: .any :: .any :: .any :: .any :: .any :: .any :: []))
      (fun s => H0) 0 ⟨Nat.zero_le _, by simp⟩ (by (refine fgtX ?_; try exact True.intro)) ?_
    rintro i ⟨h1, h4⟩
    cases hr : l.drop i with
    | nil =>
      have hlt := drop_nil hr
      rw [hr] at h4
      simp only [smSL] at h4
      rw [h4]
      simp only [outB]
      (have ww1 := hlt; refine wk ?_; clear ww1; (repeat' first | exact True.intro | refine Lf.mk ?_ ?_); all_goals intro hP)
      (refine resX ?_; try exact True.intro)
    | cons k rest =>
      obtain ⟨hk, hlt, hd, hm⟩ := drop_cons hr
      have hfk := fineL_mem hF hm
      have hfi := fine_inner hfk
      rw [fine_eq] at hfk
      have hmm := manyL_mem hm
      have hli := len_manyL (innerL k)
      rw [hr] at h4
      simp only [smSL] at h4
      rw [smS_eq] at h4
      have hca := fun H0 => count_run (nodesL [k.a]) [k.a] (Nat.le_refl _) (by simp only [nodesL]; omega) 60 H0 (by omega) (by omega)
      have hcb := fun H0 => count_run (nodesL [k.b]) [k.b] (Nat.le_refl _) (by simp only [nodesL]; omega) 60 H0 (by omega) (by omega)
      have hca1 := cnt1 k.a 60 (by omega)
      have hcb1 := cnt1 k.b 60 (by omega)
      simp only [List.map_cons, List.map_nil, encE_eq] at hca hcb
      have hin := fun H0 => inner_run k H0 (by omega)
      have hrec := fun H0 => ihN (innerL k) (by omega) (by omega) hfi H0
      by_cases hA : nodes k.a ≤ 60
      · have ha : cntEL [k.a] 60 0 ≤ 60 := by
          rcases Int.lt_or_le 60 (cntEL [k.a] 60 0) with h | h
          · have := hca1.1 h; omega
          · exact h
        by_cases h2 : k.kind = 2
        · simp only [cS, h2] at hin
          by_cases hB : nodes k.b ≤ 60
          · have hb2 : cntEL [k.b] 60 0 ≤ 60 := by
              rcases Int.lt_or_le 60 (cntEL [k.b] 60 0) with h | h
              · have := hcb1.1 h; omega
              · exact h
            simp only [hA, hB, h2, decide_true, if_true, Bool.true_and] at h4
            cases hI : smSL (innerL k) with
            | true =>
              simp only [hI, Bool.true_and, outB] at h4 hrec
              (have ww1 := hlt; have ww2 := hk; have ww3 := @encS_eq; have ww4 := ha; have ww5 := hb2; have ww6 := h2; have dd1 := hca []; have dd2 := hcb []; have cc1 := fun z1 z2 => must_run z1 z2; have cc2 := fun z1 => hin z1; have cc3 := fun z1 => hrec z1; refine wk ?_; clear ww1 ww2 ww3 ww4 ww5 ww6 dd1 dd2 cc1 cc2 cc3; (repeat' first | exact True.intro | refine Lf.mk ?_ ?_); all_goals intro hP)
              refine ⟨i + 1, by omega, ⟨by omega, by rw [hd]; exact h4⟩, ?_⟩
              (refine dropX ?_; try exact True.intro)
              all_goals simp
            | false =>
              simp only [hI, Bool.false_and, outB] at h4 hrec
              rw [h4]
              simp only [outB]
              (have ww1 := hlt; have ww2 := hk; have ww3 := @encS_eq; have ww4 := ha; have ww5 := hb2; have ww6 := h2; have dd1 := hca []; have dd2 := hcb []; have cc1 := fun z1 z2 => must_run z1 z2; have cc2 := fun z1 => hin z1; have cc3 := fun z1 => hrec z1; refine wk ?_; clear ww1 ww2 ww3 ww4 ww5 ww6 dd1 dd2 cc1 cc2 cc3; (repeat' first | exact True.intro | refine Lf.mk ?_ ?_); all_goals intro hP)
              (refine panX ?_; try exact True.intro)
          · have hb2 : ¬ cntEL [k.b] 60 0 ≤ 60 := by
              have := hcb1.2 (by omega)
              omega
            simp only [hA, hB, h2, decide_true, decide_false, if_true, Bool.false_and, Bool.and_false] at h4
            rw [h4]
            simp only [outB]
            (have ww1 := hlt; have ww2 := hk; have ww3 := @encS_eq; have ww4 := ha; have ww5 := hb2; have ww6 := h2; have dd1 := hca []; have dd2 := hcb []; have cc1 := fun z1 z2 => must_run z1 z2; have cc2 := fun z1 z2 => must_pan z1 z2; refine wk ?_; clear ww1 ww2 ww3 ww4 ww5 ww6 dd1 dd2 cc1 cc2; (repeat' first | exact True.intro | refine Lf.mk ?_ ?_); all_goals intro hP)
            (refine panX ?_; try exact True.intro)
        · have h2' : (k.kind != 2) = true := by simpa using h2
          simp only [hA, h2, decide_true, if_false, Bool.true_and] at h4
          cases hI : smSL (innerL k) with
          | true =>
            simp only [hI, Bool.true_and, outB] at h4 hrec
            (have ww1 := hlt; have ww2 := hk; have ww3 := @encS_eq; have ww4 := ha; have ww5 := h2'; have dd1 := hca []; have cc1 := fun z1 z2 => must_run z1 z2; have cc2 := fun z1 => hin z1; have cc3 := fun z1 => hrec z1; refine wk ?_; clear ww1 ww2 ww3 ww4 ww5 dd1 cc1 cc2 cc3; (repeat' first | exact True.intro | refine Lf.mk ?_ ?_); all_goals intro hP)
            refine ⟨i + 1, by omega, ⟨by omega, by rw [hd]; exact h4⟩, ?_⟩
            (refine dropX ?_; try exact True.intro)
            all_goals simp
          | false =>
            simp only [hI, Bool.false_and, outB] at h4 hrec
            rw [h4]
            simp only [outB]
            (have ww1 := hlt; have ww2 := hk; have ww3 := @encS_eq; have ww4 := ha; have ww5 := h2'; have dd1 := hca []; have cc1 := fun z1 z2 => must_run z1 z2; have cc2 := fun z1 => hin z1; have cc3 := fun z1 => hrec z1; refine wk ?_; clear ww1 ww2 ww3 ww4 ww5 dd1 cc1 cc2 cc3; (repeat' first | exact True.intro | refine Lf.mk ?_ ?_); all_goals intro hP)
            (refine panX ?_; try exact True.intro)
      · have ha : ¬ cntEL [k.a] 60 0 ≤ 60 := by
          have := hca1.2 (by omega)
          omega
        simp only [hA, decide_false, Bool.false_and] at h4
        rw [h4]
        simp only [outB]
        (have ww1 := hlt; have ww2 := hk; have ww3 := @encS_eq; have ww4 := ha; have dd1 := hca []; have cc1 := fun z1 z2 => must_pan z1 z2; refine wk ?_; clear ww1 ww2 ww3 ww4 dd1 cc1; (repeat' first | exact True.intro | refine Lf.mk ?_ ?_); all_goals intro hP)
        (refine panX ?_; try exact True.intro)
theorem dr93_6_U13 : Drawn Tryz.prog 6 (regOps 6 ((Tryz.f93.body).getD .skip)) [13] [] [.win [0], .win [0], .win [0], .win [0], .win [0], .win [0], .win [0], .win [0], .win [0], .win [0], .win [0], .win [0], .win [0], .eff 0] 1 [] := ⟨rfl, by as_aux_lemma => kernel_rfl⟩
theorem dr93_7_U13 : Drawn Tryz.prog 7 (regOps 7 ((Tryz.f93.body).getD .skip)) [3, 13] [] [.win [0], .win [0], .win [0], .eff 0, .win [0, 1], .win [0, 1], .win [0, 1], .win [0, 1], .win [0, 1], .win [0, 1], .win [0, 1], .win [0, 1], .win [1], .eff 1] 2 [] := ⟨rfl, by as_aux_lemma => kernel_rfl⟩
theorem dr93_11_U13 : Drawn Tryz.prog 11 (regOps 11 ((Tryz.f93.body).getD .skip)) [4, 6] [] [.win [0, 1], .win [0], .win [0], .win [0], .eff 0, .win [1], .eff 1] 2 [] := ⟨rfl, by as_aux_lemma => kernel_rfl⟩
def outE (x : Int) (H : List AObj) : AOut := if x = 0 then .ret (.tup []) H else .pan (.pv (.sc (.iface 37 (.int .i64 x)))) H
theorem stmts_run (vs : List Un) (hvs : ∀ u ∈ vs, u.ok) : ∀ (N : Nat) (l : List St), totL l ≤ N → fineL l → ∀ (H0 : List AObj), ARun Tryz.prog 93 [chk vs, .rs 13 (l.map encS)] H0 (outE (stSL vs l) H0) := by
  intro N
  induction N with
  | zero =>
    intro l hN _ H0
    have hl : l = [] := by have := len_totL l; exact List.eq_nil_of_length_eq_zero (by omega)
    subst hl
    simp only [stSL, outE, if_true]
    (refine ARun.intro Tryz.func93 rfl Tryz.call93 Tryz.ntmps93 Tryz.results93 ?_; simp only [List.length_cons, List.length_nil, List.length_map, Nat.reduceAdd, Nat.reduceSub, List.replicate_succ, List.replicate_zero, List.cons_append, List.nil_append])
    (refine wk ?_; (repeat' first | exact True.intro | refine Lf.mk ?_ ?_); all_goals intro hP)
    refine awp_loop 1 ?_
    (have rr1 := dr93_6_U13; have rr2 := dr93_7_U13; have rr3 := dr93_11_U13; refine wk ?_; clear rr1 rr2 rr3; (repeat' first | exact True.intro | refine Lf.mk ?_ ?_); all_goals intro hP)
    (refine resX ?_; try exact True.intro)
  | succ N ihN =>
    intro l hN hF H0
    (refine ARun.intro Tryz.func93 rfl Tryz.call93 Tryz.ntmps93 Tryz.results93 ?_; simp only [List.length_cons, List.length_nil, List.length_map, Nat.reduceAdd, Nat.reduceSub, List.replicate_succ, List.replicate_zero, List.cons_append, List.nil_append])
    refine awp_len 1 rfl fun hlen => ?_
    rw [List.length_map] at hlen
    (refine wk ?_; (repeat' first | exact True.intro | refine Lf.mk ?_ ?_); all_goals intro hP)
    refine awp_loop_ind (σ := Nat) (fun s => l.length - s) (fun s => s ≤ l.length ∧ stSL vs l = stSL vs (l.drop s))
      (fun s => (chk vs :: .any :: .any :: .any :: .any :: .any :: .any :: .rs 13 (l.map encS) :: .i l.length :: .i s :: .any :: .any :: .any :: .any :: .any :: .any :: .any :: .any :: .any :: .any :: .any :: .any :: .any :: .any :: .any :: .any :: .any :: .any :: .any :: .any :: .any :: .any :: .any :: .any :: .any :: .any :: .any :: .any :: .any :: .any :: .any :: .any :: .any :: .any :: .any :: .any :: .any :: .any :: .any :: .any :: .any :: .any :: .any :: .any :: .any :: .any :: .any :: .any :: .any :: .any :: .any :: .any :: .any :: .any :: .any :: .any :: .any :: .any :: .any :: .any :: .any :: .any :: .any :: .any :: .any :: .any :: .any :: []))
      (fun s => H0) 0 ⟨Nat.zero_le _, by simp⟩ (by (refine fgtX ?_; try exact True.intro)) ?_
    rintro i ⟨h1, h4⟩
    cases hr : l.drop i with
    | nil =>
      have hlt := drop_nil hr
      rw [hr] at h4
      simp only [stSL] at h4
      rw [h4]
      simp only [outE, if_true]
      (have rr1 := dr93_6_U13; have rr2 := dr93_7_U13; have rr3 := dr93_11_U13; have ww1 := hlt; refine wk ?_; clear rr1 rr2 rr3 ww1; (repeat' first | exact True.intro | refine Lf.mk ?_ ?_); all_goals intro hP)
      (refine resX ?_; try exact True.intro)
    | cons k rest =>
      obtain ⟨hk, hlt, hd, hm⟩ := drop_cons hr
      have hfk := fineL_mem hF hm
      rw [fine_eq] at hfk
      have hmm := totL_mem hm
      rw [tot_eq] at hmm
      rw [hr] at h4
      simp only [stSL] at h4
      rw [stS_eq] at h4
      have ha := fun H0 => infer_run vs hvs k.a H0 (by omega)
      have hb0 := fun H0 => infer_run vs hvs k.b H0 (by omega)
      have ht := fun H0 => ihN k.thn (by omega) hfk.2.2.1 H0
      have he := fun H0 => ihN k.els (by omega) hfk.2.2.2 H0
      by_cases h1k : k.kind = 1
      · simp only [h1k, if_true] at h4
        by_cases hv0 : 0 ≤ k.var
        · simp only [hv0, if_true] at h4
          cases hv : vs[k.var.toNat]? with
          | none =>
            have hlv : ¬ k.var < vs.length := by rw [List.getElem?_eq_none_iff] at hv; omega
            simp only [hv] at h4
            simp only [show (1 : Int) ≠ 0 from by decide, if_false] at h4
            rw [h4]
            simp only [outE, show (1 : Int) ≠ 0 from by decide, if_false]
            repeat' (first | refine awp_seq ?_ | refine awp_block ?_ | refine awp_scope ?_ | ((first | refine awp_region_k fun Kn Kp hn hp => ?_ | show AWP _ _ (Code.region 6 _ true) _ _ _; refine awp_drawn_k (id := 6) [13] [13] [.win [0], .win [0], .win [0], .win [0], .win [0], .win [0], .win [0], .win [0], .win [0], .win [0], .win [0], .win [0], .win [0], .pan [0]] 1 rfl (by as_aux_lemma => kernel_rfl) fun Kn Kp hn hp => ?_ | show AWP _ _ (Code.region 7 _ true) _ _ _; refine awp_drawn_k (id := 7) [3, 13] [] [.win [0], .win [0], .win [0], .eff 0, .win [0, 1], .win [0, 1], .win [0, 1], .win [0, 1], .win [0, 1], .win [0, 1], .win [0, 1], .win [0, 1], .win [1], .eff 1] 2 rfl (by as_aux_lemma => kernel_rfl) fun Kn Kp hn hp => ?_ | show AWP _ _ (Code.region 11 _ true) _ _ _; refine awp_drawn_k (id := 11) [4, 6] [] [.win [0, 1], .win [0], .win [0], .win [0], .eff 0, .win [1], .eff 1] 2 rfl (by as_aux_lemma => kernel_rfl) fun Kn Kp hn hp => ?_ | refine oge_intro (by assumption) ?_ | (show AWE _ _ _ _ _ _ _ _ _; first | refine awe_intro (must_pan _ _) ?_) | (show AWSF _ _ _ _ _ _ _ _ _ _ _; first | refine awsf_intro (must_pan _ _) (fun hrun => ?_)) | (show OGE _ _ _ _ _ _ _; first | refine oge_intro (must_pan _ _) ?_) | (show AWSE _ _ _ _ _ _ _ _ _ _ _; first | refine awse_intro (must_pan _ _) (fun hrun => ?_)) | (show PGE _ _ _ _ _; first | refine pge_intro (must_pan _ _) (fun tm' => ?_))) <;> (simp only [go_sem, Nat.reduceAdd, Nat.reduceSub, Nat.reduceMul, Nat.reduceLeDiff, Nat.reduceLT, Nat.reduceEqDiff, Int.reduceToNat, Int.reduceAdd, Int.reduceMul, Int.reduceSub, Int.reduceLT, Int.reduceLE, Int.reduceEq, Int.reduceNeg, Int.reduceBEq, Int.reduceBNe, ↓reduceIte, reduceCtorEq, hlt, hk, encS_eq, h1k, hv0, hlv] <;> try simp (disch := omega) only [wrap_of])) | (refine hn _ _ ?_; clear hn hp Kn Kp) | (refine hp _ _ _ ?_; clear hn hp Kn Kp) | (refine awp_cond rfl (fun hb => ?_) (fun hb => ?_) <;> (try simp only [decide_eq_true_eq, decide_eq_false_iff_not, Bool.not_eq_true', Bool.not_eq_false', Bool.true_eq_false, Bool.false_eq_true, beq_iff_eq, bne_iff_ne, bne_eq_false_iff_eq, beq_eq_false_iff_ne, gt_iff_lt, ge_iff_le, Int.reduceEq, Int.reduceNe, Int.reduceLT, Int.reduceLE, ne_eq, not_true_eq_false, not_false_eq_true] at hb)) | ((first | refine awg_split (fun hb => ?_) (fun hb => ?_) | refine awsg_split (fun hb => ?_) (fun hb => ?_)) <;> have hb0 := hb <;> (try simp only [decide_eq_true_eq, decide_eq_false_iff_not, Bool.not_eq_true', Bool.not_eq_false', Bool.true_eq_false, Bool.false_eq_true, beq_iff_eq, bne_iff_ne, bne_eq_false_iff_eq, beq_eq_false_iff_ne, gt_iff_lt, ge_iff_le, Int.reduceEq, Int.reduceNe, Int.reduceLT, Int.reduceLE, ne_eq, not_true_eq_false, not_false_eq_true] at hb0) <;> (try simp only [beq_true, beq_false, Bool.not_eq_true', Bool.not_eq_false'] at hb) <;> (simp only [go_sem, Nat.reduceAdd, Nat.reduceSub, Nat.reduceMul, Nat.reduceLeDiff, Nat.reduceLT, Nat.reduceEqDiff, Int.reduceToNat, Int.reduceAdd, Int.reduceMul, Int.reduceSub, Int.reduceLT, Int.reduceLE, Int.reduceEq, Int.reduceNeg, Int.reduceBEq, Int.reduceBNe, ↓reduceIte, reduceCtorEq, hlt, hk, encS_eq, h1k, hv0, hlv, hb, hb0] <;> try simp (disch := omega) only [wrap_of])) | (refine And.intro ?_ ?_) | refine awp_skip ?_ | refine awp_ret ?_ | refine awp_exit ?_ | refine awp_label ?_ | refine awloop_step ?_ | fail)
            (refine panX ?_; try exact True.intro)
          | some w =>
            have hlv : k.var < vs.length := by have := (List.getElem?_eq_some_iff.1 hv).1; omega
            simp only [hv] at h4
            cases hi : inf vs k.a with
            | error x =>
              have hx := inf_err vs k.a x hi
              have hx0 : x ≠ 0 := by omega
              simp only [hi, hx0, if_false] at h4
              simp only [hi, outU] at ha
              rw [h4]
              simp only [outE, hx0, if_false]
              repeat' (first | refine awp_seq ?_ | refine awp_block ?_ | refine awp_scope ?_ | ((first | refine awp_region_k fun Kn Kp hn hp => ?_ | show AWP _ _ (Code.region 6 _ true) _ _ _; refine awp_drawn_k (id := 6) [13] [] [.win [0], .win [0], .win [0], .win [0], .win [0], .win [0], .win [0], .win [0], .win [0], .win [0], .win [0], .win [0], .win [0], .eff 0] 1 rfl (by as_aux_lemma => kernel_rfl) fun Kn Kp hn hp => ?_ | show AWP _ _ (Code.region 7 _ true) _ _ _; refine awp_drawn_k (id := 7) [3, 13] [3] [.win [0], .win [0], .win [0], .pan [0], .win [0, 1], .win [0, 1], .win [0, 1], .win [0, 1], .win [0, 1], .win [0, 1], .win [0, 1], .win [0, 1], .skip, .skip] 2 rfl (by as_aux_lemma => kernel_rfl) fun Kn Kp hn hp => ?_ | show AWP _ _ (Code.region 11 _ true) _ _ _; refine awp_drawn_k (id := 11) [4, 6] [] [.win [0, 1], .win [0], .win [0], .win [0], .eff 0, .win [1], .eff 1] 2 rfl (by as_aux_lemma => kernel_rfl) fun Kn Kp hn hp => ?_ | refine oge_intro (by assumption) ?_ | (show AWE _ _ _ _ _ _ _ _ _; first | refine awe_intro (must_run _ _) ?_ | refine awe_intro (ha _) ?_) | (show AWSF _ _ _ _ _ _ _ _ _ _ _; first | refine awsf_intro (must_run _ _) (fun hrun => ?_) | refine awsf_intro (ha _) (fun hrun => ?_)) | (show OGE _ _ _ _ _ _ _; first | refine oge_intro (must_run _ _) ?_ | refine oge_intro (ha _) ?_) | (show AWSE _ _ _ _ _ _ _ _ _ _ _; first | refine awse_intro (must_run _ _) (fun hrun => ?_) | refine awse_intro (ha _) (fun hrun => ?_)) | (show PGE _ _ _ _ _; first | refine pge_intro (must_run _ _) (fun tm' => ?_) | refine pge_intro (ha _) (fun tm' => ?_))) <;> (simp only [go_sem, Nat.reduceAdd, Nat.reduceSub, Nat.reduceMul, Nat.reduceLeDiff, Nat.reduceLT, Nat.reduceEqDiff, Int.reduceToNat, Int.reduceAdd, Int.reduceMul, Int.reduceSub, Int.reduceLT, Int.reduceLE, Int.reduceEq, Int.reduceNeg, Int.reduceBEq, Int.reduceBNe, ↓reduceIte, reduceCtorEq, hlt, hk, encS_eq, h1k, hv0, hlv, hv] <;> try simp (disch := omega) only [wrap_of])) | (refine hn _ _ ?_; clear hn hp Kn Kp) | (refine hp _ _ _ ?_; clear hn hp Kn Kp) | (refine awp_cond rfl (fun hb => ?_) (fun hb => ?_) <;> (try simp only [decide_eq_true_eq, decide_eq_false_iff_not, Bool.not_eq_true', Bool.not_eq_false', Bool.true_eq_false, Bool.false_eq_true, beq_iff_eq, bne_iff_ne, bne_eq_false_iff_eq, beq_eq_false_iff_ne, gt_iff_lt, ge_iff_le, Int.reduceEq, Int.reduceNe, Int.reduceLT, Int.reduceLE, ne_eq, not_true_eq_false, not_false_eq_true] at hb)) | ((first | refine awg_split (fun hb => ?_) (fun hb => ?_) | refine awsg_split (fun hb => ?_) (fun hb => ?_)) <;> have hb0 := hb <;> (try simp only [decide_eq_true_eq, decide_eq_false_iff_not, Bool.not_eq_true', Bool.not_eq_false', Bool.true_eq_false, Bool.false_eq_true, beq_iff_eq, bne_iff_ne, bne_eq_false_iff_eq, beq_eq_false_iff_ne, gt_iff_lt, ge_iff_le, Int.reduceEq, Int.reduceNe, Int.reduceLT, Int.reduceLE, ne_eq, not_true_eq_false, not_false_eq_true] at hb0) <;> (try simp only [beq_true, beq_false, Bool.not_eq_true', Bool.not_eq_false'] at hb) <;> (simp only [go_sem, Nat.reduceAdd, Nat.reduceSub, Nat.reduceMul, Nat.reduceLeDiff, Nat.reduceLT, Nat.reduceEqDiff, Int.reduceToNat, Int.reduceAdd, Int.reduceMul, Int.reduceSub, Int.reduceLT, Int.reduceLE, Int.reduceEq, Int.reduceNeg, Int.reduceBEq, Int.reduceBNe, ↓reduceIte, reduceCtorEq, hlt, hk, encS_eq, h1k, hv0, hlv, hv, hb, hb0] <;> try simp (disch := omega) only [wrap_of])) | (refine And.intro ?_ ?_) | refine awp_skip ?_ | refine awp_ret ?_ | refine awp_exit ?_ | refine awp_label ?_ | refine awloop_step ?_ | fail)
              (refine panX ?_; try exact True.intro)
            | ok u =>
              simp only [hi, outU] at ha
              simp only [hi] at h4
              by_cases huw : u = w
              · subst huw
                simp only [if_true] at h4
                (have rr1 := dr93_6_U13; have rr2 := dr93_7_U13; have rr3 := dr93_11_U13; have ww1 := hlt; have ww2 := hk; have ww3 := @encS_eq; have ww4 := h1k; have ww5 := hv0; have ww6 := hlv; have ww7 := hv; have ww8 := @eqg70; have cc1 := fun z1 z2 => must_run z1 z2; have cc2 := fun z1 => ha z1; refine wk ?_; clear rr1 rr2 rr3 ww1 ww2 ww3 ww4 ww5 ww6 ww7 ww8 cc1 cc2; (repeat' first | exact True.intro | refine Lf.mk ?_ ?_); all_goals intro hP)
                refine ⟨i + 1, by omega, ⟨by omega, by rw [hd]; exact h4⟩, ?_⟩
                (refine dropX ?_; try exact True.intro)
                all_goals simp [wrap_of (n := (i : Int) + 1) (by omega) (by omega)]
              · have hE := eqU u w
                rw [decide_eq_false huw] at hE
                simp only [huw, if_false, show (13 : Int) ≠ 0 from by decide] at h4
                rw [h4]
                simp only [outE, show (13 : Int) ≠ 0 from by decide, if_false]
                repeat' (first | refine awp_seq ?_ | refine awp_block ?_ | refine awp_scope ?_ | ((first | refine awp_region_k fun Kn Kp hn hp => ?_ | show AWP _ _ (Code.region 6 _ true) _ _ _; refine awp_drawn_k (id := 6) [13] [] [.win [0], .win [0], .win [0], .win [0], .win [0], .win [0], .win [0], .win [0], .win [0], .win [0], .win [0], .win [0], .win [0], .eff 0] 1 rfl (by as_aux_lemma => kernel_rfl) fun Kn Kp hn hp => ?_ | show AWP _ _ (Code.region 7 _ true) _ _ _; refine awp_drawn_k (id := 7) [3, 13] [13] [.win [0], .win [0], .win [0], .eff 0, .win [0, 1], .win [0, 1], .win [0, 1], .win [0, 1], .win [0, 1], .win [0, 1], .win [0, 1], .win [0, 1], .win [1], .pan [1]] 2 rfl (by as_aux_lemma => kernel_rfl) fun Kn Kp hn hp => ?_ | show AWP _ _ (Code.region 11 _ true) _ _ _; refine awp_drawn_k (id := 11) [4, 6] [] [.win [0, 1], .win [0], .win [0], .win [0], .eff 0, .win [1], .eff 1] 2 rfl (by as_aux_lemma => kernel_rfl) fun Kn Kp hn hp => ?_ | refine oge_intro (by assumption) ?_ | (show AWE _ _ _ _ _ _ _ _ _; first | refine awe_intro (must_run _ _) ?_ | refine awe_intro (must_pan _ _) ?_ | refine awe_intro (ha _) ?_) | (show AWSF _ _ _ _ _ _ _ _ _ _ _; first | refine awsf_intro (must_run _ _) (fun hrun => ?_) | refine awsf_intro (must_pan _ _) (fun hrun => ?_) | refine awsf_intro (ha _) (fun hrun => ?_)) | (show OGE _ _ _ _ _ _ _; first | refine oge_intro (must_run _ _) ?_ | refine oge_intro (must_pan _ _) ?_ | refine oge_intro (ha _) ?_) | (show AWSE _ _ _ _ _ _ _ _ _ _ _; first | refine awse_intro (must_run _ _) (fun hrun => ?_) | refine awse_intro (must_pan _ _) (fun hrun => ?_) | refine awse_intro (ha _) (fun hrun => ?_)) | (show PGE _ _ _ _ _; first | refine pge_intro (must_run _ _) (fun tm' => ?_) | refine pge_intro (must_pan _ _) (fun tm' => ?_) | refine pge_intro (ha _) (fun tm' => ?_))) <;> (simp only [go_sem, Nat.reduceAdd, Nat.reduceSub, Nat.reduceMul, Nat.reduceLeDiff, Nat.reduceLT, Nat.reduceEqDiff, Int.reduceToNat, Int.reduceAdd, Int.reduceMul, Int.reduceSub, Int.reduceLT, Int.reduceLE, Int.reduceEq, Int.reduceNeg, Int.reduceBEq, Int.reduceBNe, ↓reduceIte, reduceCtorEq, hlt, hk, encS_eq, h1k, hv0, hlv, hv, eqg70, hE] <;> try simp (disch := omega) only [wrap_of])) | (refine hn _ _ ?_; clear hn hp Kn Kp) | (refine hp _ _ _ ?_; clear hn hp Kn Kp) | (refine awp_cond rfl (fun hb => ?_) (fun hb => ?_) <;> (try simp only [decide_eq_true_eq, decide_eq_false_iff_not, Bool.not_eq_true', Bool.not_eq_false', Bool.true_eq_false, Bool.false_eq_true, beq_iff_eq, bne_iff_ne, bne_eq_false_iff_eq, beq_eq_false_iff_ne, gt_iff_lt, ge_iff_le, Int.reduceEq, Int.reduceNe, Int.reduceLT, Int.reduceLE, ne_eq, not_true_eq_false, not_false_eq_true] at hb)) | ((first | refine awg_split (fun hb => ?_) (fun hb => ?_) | refine awsg_split (fun hb => ?_) (fun hb => ?_)) <;> have hb0 := hb <;> (try simp only [decide_eq_true_eq, decide_eq_false_iff_not, Bool.not_eq_true', Bool.not_eq_false', Bool.true_eq_false, Bool.false_eq_true, beq_iff_eq, bne_iff_ne, bne_eq_false_iff_eq, beq_eq_false_iff_ne, gt_iff_lt, ge_iff_le, Int.reduceEq, Int.reduceNe, Int.reduceLT, Int.reduceLE, ne_eq, not_true_eq_false, not_false_eq_true] at hb0) <;> (try simp only [beq_true, beq_false, Bool.not_eq_true', Bool.not_eq_false'] at hb) <;> (simp only [go_sem, Nat.reduceAdd, Nat.reduceSub, Nat.reduceMul, Nat.reduceLeDiff, Nat.reduceLT, Nat.reduceEqDiff, Int.reduceToNat, Int.reduceAdd, Int.reduceMul, Int.reduceSub, Int.reduceLT, Int.reduceLE, Int.reduceEq, Int.reduceNeg, Int.reduceBEq, Int.reduceBNe, ↓reduceIte, reduceCtorEq, hlt, hk, encS_eq, h1k, hv0, hlv, hv, eqg70, hE, hb, hb0] <;> try simp (disch := omega) only [wrap_of])) | (refine And.intro ?_ ?_) | refine awp_skip ?_ | refine awp_ret ?_ | refine awp_exit ?_ | refine awp_label ?_ | refine awloop_step ?_ | fail)
                (refine panX ?_; try exact True.intro)
        · simp only [hv0, if_false, show (1 : Int) ≠ 0 from by decide] at h4
          rw [h4]
          simp only [outE, show (1 : Int) ≠ 0 from by decide, if_false]
          repeat' (first | refine awp_seq ?_ | refine awp_block ?_ | refine awp_scope ?_ | ((first | refine awp_region_k fun Kn Kp hn hp => ?_ | show AWP _ _ (Code.region 6 _ true) _ _ _; refine awp_drawn_k (id := 6) [13] [13] [.win [0], .win [0], .win [0], .win [0], .win [0], .win [0], .win [0], .win [0], .win [0], .win [0], .win [0], .win [0], .win [0], .pan [0]] 1 rfl (by as_aux_lemma => kernel_rfl) fun Kn Kp hn hp => ?_ | show AWP _ _ (Code.region 7 _ true) _ _ _; refine awp_drawn_k (id := 7) [3, 13] [] [.win [0], .win [0], .win [0], .eff 0, .win [0, 1], .win [0, 1], .win [0, 1], .win [0, 1], .win [0, 1], .win [0, 1], .win [0, 1], .win [0, 1], .win [1], .eff 1] 2 rfl (by as_aux_lemma => kernel_rfl) fun Kn Kp hn hp => ?_ | show AWP _ _ (Code.region 11 _ true) _ _ _; refine awp_drawn_k (id := 11) [4, 6] [] [.win [0, 1], .win [0], .win [0], .win [0], .eff 0, .win [1], .eff 1] 2 rfl (by as_aux_lemma => kernel_rfl) fun Kn Kp hn hp => ?_ | refine oge_intro (by assumption) ?_ | (show AWE _ _ _ _ _ _ _ _ _; first | refine awe_intro (must_pan _ _) ?_) | (show AWSF _ _ _ _ _ _ _ _ _ _ _; first | refine awsf_intro (must_pan _ _) (fun hrun => ?_)) | (show OGE _ _ _ _ _ _ _; first | refine oge_intro (must_pan _ _) ?_) | (show AWSE _ _ _ _ _ _ _ _ _ _ _; first | refine awse_intro (must_pan _ _) (fun hrun => ?_)) | (show PGE _ _ _ _ _; first | refine pge_intro (must_pan _ _) (fun tm' => ?_))) <;> (simp only [go_sem, Nat.reduceAdd, Nat.reduceSub, Nat.reduceMul, Nat.reduceLeDiff, Nat.reduceLT, Nat.reduceEqDiff, Int.reduceToNat, Int.reduceAdd, Int.reduceMul, Int.reduceSub, Int.reduceLT, Int.reduceLE, Int.reduceEq, Int.reduceNeg, Int.reduceBEq, Int.reduceBNe, ↓reduceIte, reduceCtorEq, hlt, hk, encS_eq, h1k, hv0] <;> try simp (disch := omega) only [wrap_of])) | (refine hn _ _ ?_; clear hn hp Kn Kp) | (refine hp _ _ _ ?_; clear hn hp Kn Kp) | (refine awp_cond rfl (fun hb => ?_) (fun hb => ?_) <;> (try simp only [decide_eq_true_eq, decide_eq_false_iff_not, Bool.not_eq_true', Bool.not_eq_false', Bool.true_eq_false, Bool.false_eq_true, beq_iff_eq, bne_iff_ne, bne_eq_false_iff_eq, beq_eq_false_iff_ne, gt_iff_lt, ge_iff_le, Int.reduceEq, Int.reduceNe, Int.reduceLT, Int.reduceLE, ne_eq, not_true_eq_false, not_false_eq_true] at hb)) | ((first | refine awg_split (fun hb => ?_) (fun hb => ?_) | refine awsg_split (fun hb => ?_) (fun hb => ?_)) <;> have hb0 := hb <;> (try simp only [decide_eq_true_eq, decide_eq_false_iff_not, Bool.not_eq_true', Bool.not_eq_false', Bool.true_eq_false, Bool.false_eq_true, beq_iff_eq, bne_iff_ne, bne_eq_false_iff_eq, beq_eq_false_iff_ne, gt_iff_lt, ge_iff_le, Int.reduceEq, Int.reduceNe, Int.reduceLT, Int.reduceLE, ne_eq, not_true_eq_false, not_false_eq_true] at hb0) <;> (try simp only [beq_true, beq_false, Bool.not_eq_true', Bool.not_eq_false'] at hb) <;> (simp only [go_sem, Nat.reduceAdd, Nat.reduceSub, Nat.reduceMul, Nat.reduceLeDiff, Nat.reduceLT, Nat.reduceEqDiff, Int.reduceToNat, Int.reduceAdd, Int.reduceMul, Int.reduceSub, Int.reduceLT, Int.reduceLE, Int.reduceEq, Int.reduceNeg, Int.reduceBEq, Int.reduceBNe, ↓reduceIte, reduceCtorEq, hlt, hk, encS_eq, h1k, hv0, hb, hb0] <;> try simp (disch := omega) only [wrap_of])) | (refine And.intro ?_ ?_) | refine awp_skip ?_ | refine awp_ret ?_ | refine awp_exit ?_ | refine awp_label ?_ | refine awloop_step ?_ | fail)
          (refine panX ?_; try exact True.intro)
      · have h1k' : (k.kind == 1) = false := by simpa using h1k
        simp only [h1k, if_false] at h4
        by_cases h2k : k.kind = 2
        · simp only [h2k, if_true] at h4
          by_cases hr16 : 1 ≤ k.rel ∧ k.rel ≤ 6
          · obtain ⟨hr1, hr6⟩ := hr16
            simp only [hr1, hr6, and_self, if_true] at h4
            cases hi : inf vs k.a with
            | error x =>
              have hx := inf_err vs k.a x hi
              have hx0 : x ≠ 0 := by omega
              simp only [hi, hx0, if_false] at h4
              simp only [hi, outU] at ha
              rw [h4]
              simp only [outE, hx0, if_false]
              (have rr1 := dr93_6_U13; have rr2 := dr93_7_U13; have rr3 := dr93_11_U13; have ww1 := hlt; have ww2 := hk; have ww3 := @encS_eq; have ww4 := h2k; have ww5 := hr1; have ww6 := hr6; have cc1 := fun z1 z2 => must_run z1 z2; have cc2 := fun z1 => ha z1; refine wk ?_; clear rr1 rr2 rr3 ww1 ww2 ww3 ww4 ww5 ww6 cc1 cc2; (repeat' first | exact True.intro | refine Lf.mk ?_ ?_); all_goals intro hP)
              (refine panX ?_; try exact True.intro)
            | ok u =>
              simp only [hi, outU] at ha
              simp only [hi] at h4
              cases hj : inf vs k.b with
              | error x =>
                have hx := inf_err vs k.b x hj
                have hx0 : x ≠ 0 := by omega
                simp only [hj, hx0, if_false] at h4
                simp only [hj, outU] at hb0
                rw [h4]
                simp only [outE, hx0, if_false]
                repeat' (first | refine awp_seq ?_ | refine awp_block ?_ | refine awp_scope ?_ | ((first | refine awp_region_k fun Kn Kp hn hp => ?_ | show AWP _ _ (Code.region 6 _ true) _ _ _; refine awp_drawn_k (id := 6) [13] [] [.win [0], .win [0], .win [0], .win [0], .win [0], .win [0], .win [0], .win [0], .win [0], .win [0], .win [0], .win [0], .win [0], .eff 0] 1 rfl (by as_aux_lemma => kernel_rfl) fun Kn Kp hn hp => ?_ | show AWP _ _ (Code.region 7 _ true) _ _ _; refine awp_drawn_k (id := 7) [3, 13] [] [.win [0], .win [0], .win [0], .eff 0, .win [0, 1], .win [0, 1], .win [0, 1], .win [0, 1], .win [0, 1], .win [0, 1], .win [0, 1], .win [0, 1], .win [1], .eff 1] 2 rfl (by as_aux_lemma => kernel_rfl) fun Kn Kp hn hp => ?_ | show AWP _ _ (Code.region 11 _ true) _ _ _; refine awp_drawn_k (id := 11) [4, 6] [4] [.win [0, 1], .win [0], .win [0], .win [0], .pan [0], .skip, .skip] 2 rfl (by as_aux_lemma => kernel_rfl) fun Kn Kp hn hp => ?_ | refine oge_intro (by assumption) ?_ | (show AWE _ _ _ _ _ _ _ _ _; first | refine awe_intro (must_run _ _) ?_ | refine awe_intro (ha _) ?_ | refine awe_intro (hb0 _) ?_) | (show AWSF _ _ _ _ _ _ _ _ _ _ _; first | refine awsf_intro (must_run _ _) (fun hrun => ?_) | refine awsf_intro (ha _) (fun hrun => ?_) | refine awsf_intro (hb0 _) (fun hrun => ?_)) | (show OGE _ _ _ _ _ _ _; first | refine oge_intro (must_run _ _) ?_ | refine oge_intro (ha _) ?_ | refine oge_intro (hb0 _) ?_) | (show AWSE _ _ _ _ _ _ _ _ _ _ _; first | refine awse_intro (must_run _ _) (fun hrun => ?_) | refine awse_intro (ha _) (fun hrun => ?_) | refine awse_intro (hb0 _) (fun hrun => ?_)) | (show PGE _ _ _ _ _; first | refine pge_intro (must_run _ _) (fun tm' => ?_) | refine pge_intro (ha _) (fun tm' => ?_) | refine pge_intro (hb0 _) (fun tm' => ?_))) <;> (simp only [go_sem, Nat.reduceAdd, Nat.reduceSub, Nat.reduceMul, Nat.reduceLeDiff, Nat.reduceLT, Nat.reduceEqDiff, Int.reduceToNat, Int.reduceAdd, Int.reduceMul, Int.reduceSub, Int.reduceLT, Int.reduceLE, Int.reduceEq, Int.reduceNeg, Int.reduceBEq, Int.reduceBNe, ↓reduceIte, reduceCtorEq, hlt, hk, encS_eq, h2k, hr1, hr6] <;> try simp (disch := omega) only [wrap_of])) | (refine hn _ _ ?_; clear hn hp Kn Kp) | (refine hp _ _ _ ?_; clear hn hp Kn Kp) | (refine awp_cond rfl (fun hb => ?_) (fun hb => ?_) <;> (try simp only [decide_eq_true_eq, decide_eq_false_iff_not, Bool.not_eq_true', Bool.not_eq_false', Bool.true_eq_false, Bool.false_eq_true, beq_iff_eq, bne_iff_ne, bne_eq_false_iff_eq, beq_eq_false_iff_ne, gt_iff_lt, ge_iff_le, Int.reduceEq, Int.reduceNe, Int.reduceLT, Int.reduceLE, ne_eq, not_true_eq_false, not_false_eq_true] at hb)) | ((first | refine awg_split (fun hb => ?_) (fun hb => ?_) | refine awsg_split (fun hb => ?_) (fun hb => ?_)) <;> have hb0 := hb <;> (try simp only [decide_eq_true_eq, decide_eq_false_iff_not, Bool.not_eq_true', Bool.not_eq_false', Bool.true_eq_false, Bool.false_eq_true, beq_iff_eq, bne_iff_ne, bne_eq_false_iff_eq, beq_eq_false_iff_ne, gt_iff_lt, ge_iff_le, Int.reduceEq, Int.reduceNe, Int.reduceLT, Int.reduceLE, ne_eq, not_true_eq_false, not_false_eq_true] at hb0) <;> (try simp only [beq_true, beq_false, Bool.not_eq_true', Bool.not_eq_false'] at hb) <;> (simp only [go_sem, Nat.reduceAdd, Nat.reduceSub, Nat.reduceMul, Nat.reduceLeDiff, Nat.reduceLT, Nat.reduceEqDiff, Int.reduceToNat, Int.reduceAdd, Int.reduceMul, Int.reduceSub, Int.reduceLT, Int.reduceLE, Int.reduceEq, Int.reduceNeg, Int.reduceBEq, Int.reduceBNe, ↓reduceIte, reduceCtorEq, hlt, hk, encS_eq, h2k, hr1, hr6, hb, hb0] <;> try simp (disch := omega) only [wrap_of])) | (refine And.intro ?_ ?_) | refine awp_skip ?_ | refine awp_ret ?_ | refine awp_exit ?_ | refine awp_label ?_ | refine awloop_step ?_ | fail)
                (refine panX ?_; try exact True.intro)
              | ok w =>
                simp only [hj, outU] at hb0
                simp only [hj] at h4
                by_cases huw : u = w
                · subst huw
                  simp only [if_true] at h4
                  by_cases hT : stSL vs k.thn = 0
                  · simp only [hT, if_true] at h4
                    simp only [outE, hT, if_true] at ht
                    by_cases hE : stSL vs k.els = 0
                    · simp only [hE, if_true] at h4
                      simp only [outE, hE, if_true] at he
                      (have rr1 := dr93_6_U13; have rr2 := dr93_7_U13; have rr3 := dr93_11_U13; have ww1 := hlt; have ww2 := hk; have ww3 := @encS_eq; have ww4 := h2k; have ww5 := hr1; have ww6 := hr6; have ww7 := @eqg70; have cc1 := fun z1 z2 => must_run z1 z2; have cc2 := fun z1 => ha z1; have cc3 := fun z1 => hb0 z1; have cc4 := fun z1 => ht z1; have cc5 := fun z1 => he z1; refine wk ?_; clear rr1 rr2 rr3 ww1 ww2 ww3 ww4 ww5 ww6 ww7 cc1 cc2 cc3 cc4 cc5; (repeat' first | exact True.intro | refine Lf.mk ?_ ?_); all_goals intro hP)
                      refine ⟨i + 1, by omega, ⟨by omega, by rw [hd]; exact h4⟩, ?_⟩
                      (refine dropX ?_; try exact True.intro)
                      all_goals simp [wrap_of (n := (i : Int) + 1) (by omega) (by omega)]
                    · simp only [hE, if_false] at h4
                      simp only [outE, hE, if_false] at he
                      rw [h4]
                      simp only [outE, hE, if_false]
                      (have rr1 := dr93_6_U13; have rr2 := dr93_7_U13; have rr3 := dr93_11_U13; have ww1 := hlt; have ww2 := hk; have ww3 := @encS_eq; have ww4 := h2k; have ww5 := hr1; have ww6 := hr6; have ww7 := @eqg70; have cc1 := fun z1 z2 => must_run z1 z2; have cc2 := fun z1 => ha z1; have cc3 := fun z1 => hb0 z1; have cc4 := fun z1 => ht z1; have cc5 := fun z1 => he z1; refine wk ?_; clear rr1 rr2 rr3 ww1 ww2 ww3 ww4 ww5 ww6 ww7 cc1 cc2 cc3 cc4 cc5; (repeat' first | exact True.intro | refine Lf.mk ?_ ?_); all_goals intro hP)
                      (refine panX ?_; try exact True.intro)
                  · simp only [hT, if_false] at h4
                    simp only [outE, hT, if_false] at ht
                    rw [h4]
                    simp only [outE, hT, if_false]
                    (have rr1 := dr93_6_U13; have rr2 := dr93_7_U13; have rr3 := dr93_11_U13; have ww1 := hlt; have ww2 := hk; have ww3 := @encS_eq; have ww4 := h2k; have ww5 := hr1; have ww6 := hr6; have ww7 := @eqg70; have cc1 := fun z1 z2 => must_run z1 z2; have cc2 := fun z1 => ha z1; have cc3 := fun z1 => hb0 z1; have cc4 := fun z1 => ht z1; refine wk ?_; clear rr1 rr2 rr3 ww1 ww2 ww3 ww4 ww5 ww6 ww7 cc1 cc2 cc3 cc4; (repeat' first | exact True.intro | refine Lf.mk ?_ ?_); all_goals intro hP)
                    (refine panX ?_; try exact True.intro)
                · have hE := eqU u w
                  rw [decide_eq_false huw] at hE
                  simp only [huw, if_false, show (13 : Int) ≠ 0 from by decide] at h4
                  rw [h4]
                  simp only [outE, show (13 : Int) ≠ 0 from by decide, if_false]
                  repeat' (first | refine awp_seq ?_ | refine awp_block ?_ | refine awp_scope ?_ | ((first | refine awp_region_k fun Kn Kp hn hp => ?_ | show AWP _ _ (Code.region 6 _ true) _ _ _; refine awp_drawn_k (id := 6) [13] [] [.win [0], .win [0], .win [0], .win [0], .win [0], .win [0], .win [0], .win [0], .win [0], .win [0], .win [0], .win [0], .win [0], .eff 0] 1 rfl (by as_aux_lemma => kernel_rfl) fun Kn Kp hn hp => ?_ | show AWP _ _ (Code.region 7 _ true) _ _ _; refine awp_drawn_k (id := 7) [3, 13] [] [.win [0], .win [0], .win [0], .eff 0, .win [0, 1], .win [0, 1], .win [0, 1], .win [0, 1], .win [0, 1], .win [0, 1], .win [0, 1], .win [0, 1], .win [1], .eff 1] 2 rfl (by as_aux_lemma => kernel_rfl) fun Kn Kp hn hp => ?_ | show AWP _ _ (Code.region 11 _ true) _ _ _; refine awp_drawn_k (id := 11) [4, 6] [6] [.win [0, 1], .win [0], .win [0], .win [0], .eff 0, .win [1], .pan [1]] 2 rfl (by as_aux_lemma => kernel_rfl) fun Kn Kp hn hp => ?_ | refine oge_intro (by assumption) ?_ | (show AWE _ _ _ _ _ _ _ _ _; first | refine awe_intro (must_run _ _) ?_ | refine awe_intro (must_pan _ _) ?_ | refine awe_intro (ha _) ?_ | refine awe_intro (hb0 _) ?_) | (show AWSF _ _ _ _ _ _ _ _ _ _ _; first | refine awsf_intro (must_run _ _) (fun hrun => ?_) | refine awsf_intro (must_pan _ _) (fun hrun => ?_) | refine awsf_intro (ha _) (fun hrun => ?_) | refine awsf_intro (hb0 _) (fun hrun => ?_)) | (show OGE _ _ _ _ _ _ _; first | refine oge_intro (must_run _ _) ?_ | refine oge_intro (must_pan _ _) ?_ | refine oge_intro (ha _) ?_ | refine oge_intro (hb0 _) ?_) | (show AWSE _ _ _ _ _ _ _ _ _ _ _; first | refine awse_intro (must_run _ _) (fun hrun => ?_) | refine awse_intro (must_pan _ _) (fun hrun => ?_) | refine awse_intro (ha _) (fun hrun => ?_) | refine awse_intro (hb0 _) (fun hrun => ?_)) | (show PGE _ _ _ _ _; first | refine pge_intro (must_run _ _) (fun tm' => ?_) | refine pge_intro (must_pan _ _) (fun tm' => ?_) | refine pge_intro (ha _) (fun tm' => ?_) | refine pge_intro (hb0 _) (fun tm' => ?_))) <;> (simp only [go_sem, Nat.reduceAdd, Nat.reduceSub, Nat.reduceMul, Nat.reduceLeDiff, Nat.reduceLT, Nat.reduceEqDiff, Int.reduceToNat, Int.reduceAdd, Int.reduceMul, Int.reduceSub, Int.reduceLT, Int.reduceLE, Int.reduceEq, Int.reduceNeg, Int.reduceBEq, Int.reduceBNe, ↓reduceIte, reduceCtorEq, hlt, hk, encS_eq, h2k, hr1, hr6, eqg70, hE] <;> try simp (disch := omega) only [wrap_of])) | (refine hn _ _ ?_; clear hn hp Kn Kp) | (refine hp _ _ _ ?_; clear hn hp Kn Kp) | (refine awp_cond rfl (fun hb => ?_) (fun hb => ?_) <;> (try simp only [decide_eq_true_eq, decide_eq_false_iff_not, Bool.not_eq_true', Bool.not_eq_false', Bool.true_eq_false, Bool.false_eq_true, beq_iff_eq, bne_iff_ne, bne_eq_false_iff_eq, beq_eq_false_iff_ne, gt_iff_lt, ge_iff_le, Int.reduceEq, Int.reduceNe, Int.reduceLT, Int.reduceLE, ne_eq, not_true_eq_false, not_false_eq_true] at hb)) | ((first | refine awg_split (fun hb => ?_) (fun hb => ?_) | refine awsg_split (fun hb => ?_) (fun hb => ?_)) <;> have hb0 := hb <;> (try simp only [decide_eq_true_eq, decide_eq_false_iff_not, Bool.not_eq_true', Bool.not_eq_false', Bool.true_eq_false, Bool.false_eq_true, beq_iff_eq, bne_iff_ne, bne_eq_false_iff_eq, beq_eq_false_iff_ne, gt_iff_lt, ge_iff_le, Int.reduceEq, Int.reduceNe, Int.reduceLT, Int.reduceLE, ne_eq, not_true_eq_false, not_false_eq_true] at hb0) <;> (try simp only [beq_true, beq_false, Bool.not_eq_true', Bool.not_eq_false'] at hb) <;> (simp only [go_sem, Nat.reduceAdd, Nat.reduceSub, Nat.reduceMul, Nat.reduceLeDiff, Nat.reduceLT, Nat.reduceEqDiff, Int.reduceToNat, Int.reduceAdd, Int.reduceMul, Int.reduceSub, Int.reduceLT, Int.reduceLE, Int.reduceEq, Int.reduceNeg, Int.reduceBEq, Int.reduceBNe, ↓reduceIte, reduceCtorEq, hlt, hk, encS_eq, h2k, hr1, hr6, eqg70, hE, hb, hb0] <;> try simp (disch := omega) only [wrap_of])) | (refine And.intro ?_ ?_) | refine awp_skip ?_ | refine awp_ret ?_ | refine awp_exit ?_ | refine awp_label ?_ | refine awloop_step ?_ | fail)
                  (refine panX ?_; try exact True.intro)
          · simp only [hr16, if_false, show (1 : Int) ≠ 0 from by decide] at h4
            rw [h4]
            simp only [outE, show (1 : Int) ≠ 0 from by decide, if_false]
            repeat' (first | refine awp_seq ?_ | refine awp_block ?_ | refine awp_scope ?_ | ((first | refine awp_region_k fun Kn Kp hn hp => ?_ | show AWP _ _ (Code.region 6 _ true) _ _ _; refine awp_drawn_k (id := 6) [13] [] [.win [0], .win [0], .win [0], .win [0], .win [0], .win [0], .win [0], .win [0], .win [0], .win [0], .win [0], .win [0], .win [0], .eff 0] 1 rfl (by as_aux_lemma => kernel_rfl) fun Kn Kp hn hp => ?_ | show AWP _ _ (Code.region 7 _ true) _ _ _; refine awp_drawn_k (id := 7) [3, 13] [] [.win [0], .win [0], .win [0], .eff 0, .win [0, 1], .win [0, 1], .win [0, 1], .win [0, 1], .win [0, 1], .win [0, 1], .win [0, 1], .win [0, 1], .win [1], .eff 1] 2 rfl (by as_aux_lemma => kernel_rfl) fun Kn Kp hn hp => ?_ | show AWP _ _ (Code.region 11 _ true) _ _ _; refine awp_drawn_k (id := 11) [4, 6] [] [.win [0, 1], .win [0], .win [0], .win [0], .eff 0, .win [1], .eff 1] 2 rfl (by as_aux_lemma => kernel_rfl) fun Kn Kp hn hp => ?_ | refine oge_intro (by assumption) ?_) <;> (simp only [go_sem, Nat.reduceAdd, Nat.reduceSub, Nat.reduceMul, Nat.reduceLeDiff, Nat.reduceLT, Nat.reduceEqDiff, Int.reduceToNat, Int.reduceAdd, Int.reduceMul, Int.reduceSub, Int.reduceLT, Int.reduceLE, Int.reduceEq, Int.reduceNeg, Int.reduceBEq, Int.reduceBNe, ↓reduceIte, reduceCtorEq, hlt, hk, encS_eq, h2k] <;> try simp (disch := omega) only [wrap_of])) | (refine hn _ _ ?_; clear hn hp Kn Kp) | (refine hp _ _ _ ?_; clear hn hp Kn Kp) | (refine awp_cond rfl (fun hb => ?_) (fun hb => ?_) <;> (try simp only [decide_eq_true_eq, decide_eq_false_iff_not, Bool.not_eq_true', Bool.not_eq_false', Bool.true_eq_false, Bool.false_eq_true, beq_iff_eq, bne_iff_ne, bne_eq_false_iff_eq, beq_eq_false_iff_ne, gt_iff_lt, ge_iff_le, Int.reduceEq, Int.reduceNe, Int.reduceLT, Int.reduceLE, ne_eq, not_true_eq_false, not_false_eq_true] at hb)) | ((first | refine awg_split (fun hb => ?_) (fun hb => ?_) | refine awsg_split (fun hb => ?_) (fun hb => ?_) | refine awe_cases (must_c _ _ _) (fun hb => ?_) (fun hb => ?_)) <;> have hb0 := hb <;> (try simp only [decide_eq_true_eq, decide_eq_false_iff_not, Bool.not_eq_true', Bool.not_eq_false', Bool.true_eq_false, Bool.false_eq_true, beq_iff_eq, bne_iff_ne, bne_eq_false_iff_eq, beq_eq_false_iff_ne, gt_iff_lt, ge_iff_le, Int.reduceEq, Int.reduceNe, Int.reduceLT, Int.reduceLE, ne_eq, not_true_eq_false, not_false_eq_true] at hb0) <;> (try simp only [beq_true, beq_false, Bool.not_eq_true', Bool.not_eq_false'] at hb) <;> (simp only [go_sem, Nat.reduceAdd, Nat.reduceSub, Nat.reduceMul, Nat.reduceLeDiff, Nat.reduceLT, Nat.reduceEqDiff, Int.reduceToNat, Int.reduceAdd, Int.reduceMul, Int.reduceSub, Int.reduceLT, Int.reduceLE, Int.reduceEq, Int.reduceNeg, Int.reduceBEq, Int.reduceBNe, ↓reduceIte, reduceCtorEq, hlt, hk, encS_eq, h2k, hb, hb0] <;> try simp (disch := omega) only [wrap_of])) | (refine And.intro ?_ ?_) | refine awp_skip ?_ | refine awp_ret ?_ | refine awp_exit ?_ | refine awp_label ?_ | refine awloop_step ?_ | fail)
            all_goals first
              | omega
              | ((refine panX ?_; try exact True.intro))
        · have h2k' : (k.kind == 2) = false := by simpa using h2k
          simp only [h2k, if_false, show (1 : Int) ≠ 0 from by decide] at h4
          rw [h4]
          simp only [outE, show (1 : Int) ≠ 0 from by decide, if_false]
          (have rr1 := dr93_6_U13; have rr2 := dr93_7_U13; have rr3 := dr93_11_U13; have ww1 := hlt; have ww2 := hk; have ww3 := @encS_eq; have ww4 := h1k'; have ww5 := h2k'; refine wk ?_; clear rr1 rr2 rr3 ww1 ww2 ww3 ww4 ww5; (repeat' first | exact True.intro | refine Lf.mk ?_ ?_); all_goals intro hP)
          (refine panX ?_; try exact True.intro)
theorem handler_run (vs : List Un) (hvs : ∀ u ∈ vs, u.ok) (l : List St) (hM : manyL l ≤ 900000) (hF : fineL l) (H0 : List AObj) : ARun Tryz.prog 72 [chk vs, .rs 13 (l.map encS)] H0 (.ret (.i (handS vs l)) H0) := by
  have hc := fun H0 => countS_run (manyL l) l (Nat.le_refl _) (by omega) 100 H0 (by omega) (by omega)
  have hcm := cntSL_many l 100 (by omega)
  have hs := fun H0 => small_run (manyL l) l (Nat.le_refl _) hM hF H0
  have ht := fun H0 => stmts_run vs hvs (totL l) l (Nat.le_refl _) hF H0
  unfold handS
  by_cases h100 : 100 < manyL l
  · have hle : ¬ cntSL l 100 0 ≤ 100 := by have := hcm.2 (by omega); omega
    simp only [h100, if_true]
    (refine ARun.introD Tryz.func72 rfl Tryz.call72 Tryz.ntmps72 Tryz.results72 ?_; simp only [List.length_cons, List.length_nil, List.length_map, Nat.reduceAdd, Nat.reduceSub, List.replicate_succ, List.replicate_zero, List.cons_append, List.nil_append])
    repeat' (first | refine awpd_seq ?_ | refine awp_block ?_ | (refine awpd_defer (id := 1) ?_; simp only [AWLD, go_sem, Nat.reduceAdd, Nat.reduceSub, Nat.reduceMul, Nat.reduceLeDiff, Nat.reduceLT, Nat.reduceEqDiff, Int.reduceToNat, Int.reduceAdd, Int.reduceMul, Int.reduceSub, Int.reduceLT, Int.reduceLE, Int.reduceEq, Int.reduceNeg, Int.reduceBEq, Int.reduceBNe, ↓reduceIte, reduceCtorEq, hle]) | ((first | refine awpd_region_k fun Kn Kp hn hp => ?_ | refine oge_intro (by assumption) ?_ | (show AWE _ _ _ _ _ _ _ _ _; first | refine awe_intro (hc _) ?_ | refine awe_intro (must_pan _ _) ?_) | (show AWSF _ _ _ _ _ _ _ _ _ _ _; first | refine awsf_intro (hc _) (fun hrun => ?_) | refine awsf_intro (must_pan _ _) (fun hrun => ?_)) | (show OGE _ _ _ _ _ _ _; first | refine oge_intro (hc _) ?_ | refine oge_intro (must_pan _ _) ?_) | (show AWSE _ _ _ _ _ _ _ _ _ _ _; first | refine awse_intro (hc _) (fun hrun => ?_) | refine awse_intro (must_pan _ _) (fun hrun => ?_)) | (show PGE _ _ _ _ _; first | refine pge_intro (hc _) (fun tm' => ?_) | refine pge_intro (must_pan _ _) (fun tm' => ?_))) <;> (simp only [go_sem, Nat.reduceAdd, Nat.reduceSub, Nat.reduceMul, Nat.reduceLeDiff, Nat.reduceLT, Nat.reduceEqDiff, Int.reduceToNat, Int.reduceAdd, Int.reduceMul, Int.reduceSub, Int.reduceLT, Int.reduceLE, Int.reduceEq, Int.reduceNeg, Int.reduceBEq, Int.reduceBNe, ↓reduceIte, reduceCtorEq, hle] <;> try simp (disch := omega) only [wrap_of])) | (refine hn _ _ ?_; clear hn hp Kn Kp) | (refine hp _ _ _ ?_; clear hn hp Kn Kp) | (refine awpd_cond rfl (fun hb => ?_) (fun hb => ?_) <;> (try simp only [decide_eq_true_eq, decide_eq_false_iff_not, Bool.not_eq_true', Bool.not_eq_false', Bool.true_eq_false, Bool.false_eq_true, beq_iff_eq, bne_iff_ne, bne_eq_false_iff_eq, beq_eq_false_iff_ne, gt_iff_lt, ge_iff_le, Int.reduceEq, Int.reduceNe, Int.reduceLT, Int.reduceLE, ne_eq, not_true_eq_false, not_false_eq_true] at hb)) | ((first | refine awg_split (fun hb => ?_) (fun hb => ?_) | refine awsg_split (fun hb => ?_) (fun hb => ?_)) <;> have hb0 := hb <;> (try simp only [decide_eq_true_eq, decide_eq_false_iff_not, Bool.not_eq_true', Bool.not_eq_false', Bool.true_eq_false, Bool.false_eq_true, beq_iff_eq, bne_iff_ne, bne_eq_false_iff_eq, beq_eq_false_iff_ne, gt_iff_lt, ge_iff_le, Int.reduceEq, Int.reduceNe, Int.reduceLT, Int.reduceLE, ne_eq, not_true_eq_false, not_false_eq_true] at hb0) <;> (try simp only [beq_true, beq_false, Bool.not_eq_true', Bool.not_eq_false'] at hb) <;> (simp only [go_sem, Nat.reduceAdd, Nat.reduceSub, Nat.reduceMul, Nat.reduceLeDiff, Nat.reduceLT, Nat.reduceEqDiff, Int.reduceToNat, Int.reduceAdd, Int.reduceMul, Int.reduceSub, Int.reduceLT, Int.reduceLE, Int.reduceEq, Int.reduceNeg, Int.reduceBEq, Int.reduceBNe, ↓reduceIte, reduceCtorEq, hle, hb, hb0] <;> try simp (disch := omega) only [wrap_of])) | (refine And.intro ?_ ?_) | refine awpd_ret ?_ | refine awpd_skip ?_ | refine awloop_step ?_ | fail)
    refine ⟨_, caught_pan _ _ 2 0 (getO0 _ _ _), ?_⟩
    ((try simp only [go_sem, Nat.reduceAdd, Nat.reduceSub, Nat.reduceMul, Nat.reduceLeDiff, Nat.reduceLT, Nat.reduceEqDiff, Int.reduceToNat, Int.reduceAdd, Int.reduceMul, Int.reduceSub, Int.reduceLT, Int.reduceLE, Int.reduceEq, Int.reduceNeg, Int.reduceBEq, Int.reduceBNe, ↓reduceIte, reduceCtorEq]); (first | refine ⟨_, rfl, _, rfl, Fin.pure0 0 ?_⟩ | refine ⟨_, rfl, _, rfl, Fin.pure 1 ?_⟩); simp only [AV.low, List.map_cons, List.map_nil, aOne, aev, List.getElem?_cons_zero, List.getElem?_cons_succ, Option.getD_some, List.length_append, List.length_cons, List.length_nil, Nat.lt_irrefl, if_false]; try rfl)
  · have hle : cntSL l 100 0 ≤ 100 := by rw [hcm.1 (by omega)]; omega
    simp only [h100, if_false]
    cases hS : smSL l with
    | false =>
      simp only [hS, outB] at hs
      simp only [Bool.false_eq_true, if_false]
      (refine ARun.introD Tryz.func72 rfl Tryz.call72 Tryz.ntmps72 Tryz.results72 ?_; simp only [List.length_cons, List.length_nil, List.length_map, Nat.reduceAdd, Nat.reduceSub, List.replicate_succ, List.replicate_zero, List.cons_append, List.nil_append])
      repeat' (first | refine awpd_seq ?_ | refine awp_block ?_ | (refine awpd_defer (id := 1) ?_; simp only [AWLD, go_sem, Nat.reduceAdd, Nat.reduceSub, Nat.reduceMul, Nat.reduceLeDiff, Nat.reduceLT, Nat.reduceEqDiff, Int.reduceToNat, Int.reduceAdd, Int.reduceMul, Int.reduceSub, Int.reduceLT, Int.reduceLE, Int.reduceEq, Int.reduceNeg, Int.reduceBEq, Int.reduceBNe, ↓reduceIte, reduceCtorEq, hle]) | ((first | refine awpd_region_k fun Kn Kp hn hp => ?_ | refine oge_intro (by assumption) ?_ | (show AWE _ _ _ _ _ _ _ _ _; first | refine awe_intro (hc _) ?_ | refine awe_intro (must_run _ _) ?_ | refine awe_intro (hs _) ?_) | (show AWSF _ _ _ _ _ _ _ _ _ _ _; first | refine awsf_intro (hc _) (fun hrun => ?_) | refine awsf_intro (must_run _ _) (fun hrun => ?_) | refine awsf_intro (hs _) (fun hrun => ?_)) | (show OGE _ _ _ _ _ _ _; first | refine oge_intro (hc _) ?_ | refine oge_intro (must_run _ _) ?_ | refine oge_intro (hs _) ?_) | (show AWSE _ _ _ _ _ _ _ _ _ _ _; first | refine awse_intro (hc _) (fun hrun => ?_) | refine awse_intro (must_run _ _) (fun hrun => ?_) | refine awse_intro (hs _) (fun hrun => ?_)) | (show PGE _ _ _ _ _; first | refine pge_intro (hc _) (fun tm' => ?_) | refine pge_intro (must_run _ _) (fun tm' => ?_) | refine pge_intro (hs _) (fun tm' => ?_))) <;> (simp only [go_sem, Nat.reduceAdd, Nat.reduceSub, Nat.reduceMul, Nat.reduceLeDiff, Nat.reduceLT, Nat.reduceEqDiff, Int.reduceToNat, Int.reduceAdd, Int.reduceMul, Int.reduceSub, Int.reduceLT, Int.reduceLE, Int.reduceEq, Int.reduceNeg, Int.reduceBEq, Int.reduceBNe, ↓reduceIte, reduceCtorEq, hle] <;> try simp (disch := omega) only [wrap_of])) | (refine hn _ _ ?_; clear hn hp Kn Kp) | (refine hp _ _ _ ?_; clear hn hp Kn Kp) | (refine awpd_cond rfl (fun hb => ?_) (fun hb => ?_) <;> (try simp only [decide_eq_true_eq, decide_eq_false_iff_not, Bool.not_eq_true', Bool.not_eq_false', Bool.true_eq_false, Bool.false_eq_true, beq_iff_eq, bne_iff_ne, bne_eq_false_iff_eq, beq_eq_false_iff_ne, gt_iff_lt, ge_iff_le, Int.reduceEq, Int.reduceNe, Int.reduceLT, Int.reduceLE, ne_eq, not_true_eq_false, not_false_eq_true] at hb)) | ((first | refine awg_split (fun hb => ?_) (fun hb => ?_) | refine awsg_split (fun hb => ?_) (fun hb => ?_)) <;> have hb0 := hb <;> (try simp only [decide_eq_true_eq, decide_eq_false_iff_not, Bool.not_eq_true', Bool.not_eq_false', Bool.true_eq_false, Bool.false_eq_true, beq_iff_eq, bne_iff_ne, bne_eq_false_iff_eq, beq_eq_false_iff_ne, gt_iff_lt, ge_iff_le, Int.reduceEq, Int.reduceNe, Int.reduceLT, Int.reduceLE, ne_eq, not_true_eq_false, not_false_eq_true] at hb0) <;> (try simp only [beq_true, beq_false, Bool.not_eq_true', Bool.not_eq_false'] at hb) <;> (simp only [go_sem, Nat.reduceAdd, Nat.reduceSub, Nat.reduceMul, Nat.reduceLeDiff, Nat.reduceLT, Nat.reduceEqDiff, Int.reduceToNat, Int.reduceAdd, Int.reduceMul, Int.reduceSub, Int.reduceLT, Int.reduceLE, Int.reduceEq, Int.reduceNeg, Int.reduceBEq, Int.reduceBNe, ↓reduceIte, reduceCtorEq, hle, hb, hb0] <;> try simp (disch := omega) only [wrap_of])) | (refine And.intro ?_ ?_) | refine awpd_ret ?_ | refine awpd_skip ?_ | refine awloop_step ?_ | fail)
      refine ⟨_, caught_pan _ _ 2 0 (getO0 _ _ _), ?_⟩
      ((try simp only [go_sem, Nat.reduceAdd, Nat.reduceSub, Nat.reduceMul, Nat.reduceLeDiff, Nat.reduceLT, Nat.reduceEqDiff, Int.reduceToNat, Int.reduceAdd, Int.reduceMul, Int.reduceSub, Int.reduceLT, Int.reduceLE, Int.reduceEq, Int.reduceNeg, Int.reduceBEq, Int.reduceBNe, ↓reduceIte, reduceCtorEq]); (first | refine ⟨_, rfl, _, rfl, Fin.pure0 0 ?_⟩ | refine ⟨_, rfl, _, rfl, Fin.pure 1 ?_⟩); simp only [AV.low, List.map_cons, List.map_nil, aOne, aev, List.getElem?_cons_zero, List.getElem?_cons_succ, Option.getD_some, List.length_append, List.length_cons, List.length_nil, Nat.lt_irrefl, if_false]; try rfl)
    | true =>
      simp only [hS, outB] at hs
      simp only [if_true]
      by_cases hT : stSL vs l = 0
      · simp only [outE, hT, if_true] at ht
        rw [hT]
        (refine ARun.introD Tryz.func72 rfl Tryz.call72 Tryz.ntmps72 Tryz.results72 ?_; simp only [List.length_cons, List.length_nil, List.length_map, Nat.reduceAdd, Nat.reduceSub, List.replicate_succ, List.replicate_zero, List.cons_append, List.nil_append])
        repeat' (first | refine awpd_seq ?_ | refine awp_block ?_ | (refine awpd_defer (id := 1) ?_; simp only [AWLD, go_sem, Nat.reduceAdd, Nat.reduceSub, Nat.reduceMul, Nat.reduceLeDiff, Nat.reduceLT, Nat.reduceEqDiff, Int.reduceToNat, Int.reduceAdd, Int.reduceMul, Int.reduceSub, Int.reduceLT, Int.reduceLE, Int.reduceEq, Int.reduceNeg, Int.reduceBEq, Int.reduceBNe, ↓reduceIte, reduceCtorEq, hle]) | ((first | refine awpd_region_k fun Kn Kp hn hp => ?_ | refine oge_intro (by assumption) ?_ | (show AWE _ _ _ _ _ _ _ _ _; first | refine awe_intro (hc _) ?_ | refine awe_intro (must_run _ _) ?_ | refine awe_intro (hs _) ?_ | refine awe_intro (ht _) ?_) | (show AWSF _ _ _ _ _ _ _ _ _ _ _; first | refine awsf_intro (hc _) (fun hrun => ?_) | refine awsf_intro (must_run _ _) (fun hrun => ?_) | refine awsf_intro (hs _) (fun hrun => ?_) | refine awsf_intro (ht _) (fun hrun => ?_)) | (show OGE _ _ _ _ _ _ _; first | refine oge_intro (hc _) ?_ | refine oge_intro (must_run _ _) ?_ | refine oge_intro (hs _) ?_ | refine oge_intro (ht _) ?_) | (show AWSE _ _ _ _ _ _ _ _ _ _ _; first | refine awse_intro (hc _) (fun hrun => ?_) | refine awse_intro (must_run _ _) (fun hrun => ?_) | refine awse_intro (hs _) (fun hrun => ?_) | refine awse_intro (ht _) (fun hrun => ?_)) | (show PGE _ _ _ _ _; first | refine pge_intro (hc _) (fun tm' => ?_) | refine pge_intro (must_run _ _) (fun tm' => ?_) | refine pge_intro (hs _) (fun tm' => ?_) | refine pge_intro (ht _) (fun tm' => ?_))) <;> (simp only [go_sem, Nat.reduceAdd, Nat.reduceSub, Nat.reduceMul, Nat.reduceLeDiff, Nat.reduceLT, Nat.reduceEqDiff, Int.reduceToNat, Int.reduceAdd, Int.reduceMul, Int.reduceSub, Int.reduceLT, Int.reduceLE, Int.reduceEq, Int.reduceNeg, Int.reduceBEq, Int.reduceBNe, ↓reduceIte, reduceCtorEq, hle] <;> try simp (disch := omega) only [wrap_of])) | (refine hn _ _ ?_; clear hn hp Kn Kp) | (refine hp _ _ _ ?_; clear hn hp Kn Kp) | (refine awpd_cond rfl (fun hb => ?_) (fun hb => ?_) <;> (try simp only [decide_eq_true_eq, decide_eq_false_iff_not, Bool.not_eq_true', Bool.not_eq_false', Bool.true_eq_false, Bool.false_eq_true, beq_iff_eq, bne_iff_ne, bne_eq_false_iff_eq, beq_eq_false_iff_ne, gt_iff_lt, ge_iff_le, Int.reduceEq, Int.reduceNe, Int.reduceLT, Int.reduceLE, ne_eq, not_true_eq_false, not_false_eq_true] at hb)) | ((first | refine awg_split (fun hb => ?_) (fun hb => ?_) | refine awsg_split (fun hb => ?_) (fun hb => ?_)) <;> have hb0 := hb <;> (try simp only [decide_eq_true_eq, decide_eq_false_iff_not, Bool.not_eq_true', Bool.not_eq_false', Bool.true_eq_false, Bool.false_eq_true, beq_iff_eq, bne_iff_ne, bne_eq_false_iff_eq, beq_eq_false_iff_ne, gt_iff_lt, ge_iff_le, Int.reduceEq, Int.reduceNe, Int.reduceLT, Int.reduceLE, ne_eq, not_true_eq_false, not_false_eq_true] at hb0) <;> (try simp only [beq_true, beq_false, Bool.not_eq_true', Bool.not_eq_false'] at hb) <;> (simp only [go_sem, Nat.reduceAdd, Nat.reduceSub, Nat.reduceMul, Nat.reduceLeDiff, Nat.reduceLT, Nat.reduceEqDiff, Int.reduceToNat, Int.reduceAdd, Int.reduceMul, Int.reduceSub, Int.reduceLT, Int.reduceLE, Int.reduceEq, Int.reduceNeg, Int.reduceBEq, Int.reduceBNe, ↓reduceIte, reduceCtorEq, hle, hb, hb0] <;> try simp (disch := omega) only [wrap_of])) | (refine And.intro ?_ ?_) | refine awpd_ret ?_ | refine awpd_skip ?_ | refine awloop_step ?_ | fail)
        refine ⟨_, caught_none _ _, ?_⟩
        ((try simp only [go_sem, Nat.reduceAdd, Nat.reduceSub, Nat.reduceMul, Nat.reduceLeDiff, Nat.reduceLT, Nat.reduceEqDiff, Int.reduceToNat, Int.reduceAdd, Int.reduceMul, Int.reduceSub, Int.reduceLT, Int.reduceLE, Int.reduceEq, Int.reduceNeg, Int.reduceBEq, Int.reduceBNe, ↓reduceIte, reduceCtorEq]); (first | refine ⟨_, rfl, _, rfl, Fin.pure0 0 ?_⟩ | refine ⟨_, rfl, _, rfl, Fin.pure 1 ?_⟩); simp only [AV.low, List.map_cons, List.map_nil, aOne, aev, List.getElem?_cons_zero, List.getElem?_cons_succ, Option.getD_some, List.length_append, List.length_cons, List.length_nil, Nat.lt_irrefl, if_false]; try rfl)
      · simp only [outE, hT, if_false] at ht
        (refine ARun.introD Tryz.func72 rfl Tryz.call72 Tryz.ntmps72 Tryz.results72 ?_; simp only [List.length_cons, List.length_nil, List.length_map, Nat.reduceAdd, Nat.reduceSub, List.replicate_succ, List.replicate_zero, List.cons_append, List.nil_append])
        repeat' (first | refine awpd_seq ?_ | refine awp_block ?_ | (refine awpd_defer (id := 1) ?_; simp only [AWLD, go_sem, Nat.reduceAdd, Nat.reduceSub, Nat.reduceMul, Nat.reduceLeDiff, Nat.reduceLT, Nat.reduceEqDiff, Int.reduceToNat, Int.reduceAdd, Int.reduceMul, Int.reduceSub, Int.reduceLT, Int.reduceLE, Int.reduceEq, Int.reduceNeg, Int.reduceBEq, Int.reduceBNe, ↓reduceIte, reduceCtorEq, hle]) | ((first | refine awpd_region_k fun Kn Kp hn hp => ?_ | refine oge_intro (by assumption) ?_ | (show AWE _ _ _ _ _ _ _ _ _; first | refine awe_intro (hc _) ?_ | refine awe_intro (must_run _ _) ?_ | refine awe_intro (hs _) ?_ | refine awe_intro (ht _) ?_) | (show AWSF _ _ _ _ _ _ _ _ _ _ _; first | refine awsf_intro (hc _) (fun hrun => ?_) | refine awsf_intro (must_run _ _) (fun hrun => ?_) | refine awsf_intro (hs _) (fun hrun => ?_) | refine awsf_intro (ht _) (fun hrun => ?_)) | (show OGE _ _ _ _ _ _ _; first | refine oge_intro (hc _) ?_ | refine oge_intro (must_run _ _) ?_ | refine oge_intro (hs _) ?_ | refine oge_intro (ht _) ?_) | (show AWSE _ _ _ _ _ _ _ _ _ _ _; first | refine awse_intro (hc _) (fun hrun => ?_) | refine awse_intro (must_run _ _) (fun hrun => ?_) | refine awse_intro (hs _) (fun hrun => ?_) | refine awse_intro (ht _) (fun hrun => ?_)) | (show PGE _ _ _ _ _; first | refine pge_intro (hc _) (fun tm' => ?_) | refine pge_intro (must_run _ _) (fun tm' => ?_) | refine pge_intro (hs _) (fun tm' => ?_) | refine pge_intro (ht _) (fun tm' => ?_))) <;> (simp only [go_sem, Nat.reduceAdd, Nat.reduceSub, Nat.reduceMul, Nat.reduceLeDiff, Nat.reduceLT, Nat.reduceEqDiff, Int.reduceToNat, Int.reduceAdd, Int.reduceMul, Int.reduceSub, Int.reduceLT, Int.reduceLE, Int.reduceEq, Int.reduceNeg, Int.reduceBEq, Int.reduceBNe, ↓reduceIte, reduceCtorEq, hle] <;> try simp (disch := omega) only [wrap_of])) | (refine hn _ _ ?_; clear hn hp Kn Kp) | (refine hp _ _ _ ?_; clear hn hp Kn Kp) | (refine awpd_cond rfl (fun hb => ?_) (fun hb => ?_) <;> (try simp only [decide_eq_true_eq, decide_eq_false_iff_not, Bool.not_eq_true', Bool.not_eq_false', Bool.true_eq_false, Bool.false_eq_true, beq_iff_eq, bne_iff_ne, bne_eq_false_iff_eq, beq_eq_false_iff_ne, gt_iff_lt, ge_iff_le, Int.reduceEq, Int.reduceNe, Int.reduceLT, Int.reduceLE, ne_eq, not_true_eq_false, not_false_eq_true] at hb)) | ((first | refine awg_split (fun hb => ?_) (fun hb => ?_) | refine awsg_split (fun hb => ?_) (fun hb => ?_)) <;> have hb0 := hb <;> (try simp only [decide_eq_true_eq, decide_eq_false_iff_not, Bool.not_eq_true', Bool.not_eq_false', Bool.true_eq_false, Bool.false_eq_true, beq_iff_eq, bne_iff_ne, bne_eq_false_iff_eq, beq_eq_false_iff_ne, gt_iff_lt, ge_iff_le, Int.reduceEq, Int.reduceNe, Int.reduceLT, Int.reduceLE, ne_eq, not_true_eq_false, not_false_eq_true] at hb0) <;> (try simp only [beq_true, beq_false, Bool.not_eq_true', Bool.not_eq_false'] at hb) <;> (simp only [go_sem, Nat.reduceAdd, Nat.reduceSub, Nat.reduceMul, Nat.reduceLeDiff, Nat.reduceLT, Nat.reduceEqDiff, Int.reduceToNat, Int.reduceAdd, Int.reduceMul, Int.reduceSub, Int.reduceLT, Int.reduceLE, Int.reduceEq, Int.reduceNeg, Int.reduceBEq, Int.reduceBNe, ↓reduceIte, reduceCtorEq, hle, hb, hb0] <;> try simp (disch := omega) only [wrap_of])) | (refine And.intro ?_ ?_) | refine awpd_ret ?_ | refine awpd_skip ?_ | refine awloop_step ?_ | fail)
        refine ⟨_, caught_pan _ _ _ 0 (getO0 _ _ _), ?_⟩
        ((try simp only [go_sem, Nat.reduceAdd, Nat.reduceSub, Nat.reduceMul, Nat.reduceLeDiff, Nat.reduceLT, Nat.reduceEqDiff, Int.reduceToNat, Int.reduceAdd, Int.reduceMul, Int.reduceSub, Int.reduceLT, Int.reduceLE, Int.reduceEq, Int.reduceNeg, Int.reduceBEq, Int.reduceBNe, ↓reduceIte, reduceCtorEq]); (first | refine ⟨_, rfl, _, rfl, Fin.pure0 0 ?_⟩ | refine ⟨_, rfl, _, rfl, Fin.pure 1 ?_⟩); simp only [AV.low, List.map_cons, List.map_nil, aOne, aev, List.getElem?_cons_zero, List.getElem?_cons_succ, Option.getD_some, List.length_append, List.length_cons, List.length_nil, Nat.lt_irrefl, if_false]; try rfl)
def ansC (x : Int × Int) : AV := .tup [.i x.1, .i x.2]
theorem Check_run (p : Prg) (hl : p.vars.length ≤ 1000000) (hok : okP p) (H0 : List AObj) : ARun Tryz.prog 49 [.ag (cP p)] H0 (.ret (ansC (checkS p)) H0) := by
  unfold checkS
  cases hks : ksL p.vars with
  | none =>
    (refine ARun.intro Tryz.func49 rfl Tryz.call49 Tryz.ntmps49 Tryz.results49 ?_; simp only [List.length_cons, List.length_nil, List.length_map, Nat.reduceAdd, Nat.reduceSub, List.replicate_succ, List.replicate_zero, List.cons_append, List.nil_append])
    repeat' (first | refine awp_seq ?_ | refine awp_block ?_ | refine awp_scope ?_ | ((first | refine awp_region_k fun Kn Kp hn hp => ?_ | refine oge_intro (by assumption) ?_ | (show AWE _ _ _ _ _ _ _ _ _; first | refine awe_intro (start_run p.vars hl _) ?_) | (show AWSF _ _ _ _ _ _ _ _ _ _ _; first | refine awsf_intro (start_run p.vars hl _) (fun hrun => ?_)) | (show OGE _ _ _ _ _ _ _; first | refine oge_intro (start_run p.vars hl _) ?_) | (show AWSE _ _ _ _ _ _ _ _ _ _ _; first | refine awse_intro (start_run p.vars hl _) (fun hrun => ?_)) | (show PGE _ _ _ _ _; first | refine pge_intro (start_run p.vars hl _) (fun tm' => ?_))) <;> (simp only [go_sem, Nat.reduceAdd, Nat.reduceSub, Nat.reduceMul, Nat.reduceLeDiff, Nat.reduceLT, Nat.reduceEqDiff, Int.reduceToNat, Int.reduceAdd, Int.reduceMul, Int.reduceSub, Int.reduceLT, Int.reduceLE, Int.reduceEq, Int.reduceNeg, Int.reduceBEq, Int.reduceBNe, ↓reduceIte, reduceCtorEq, startAns, hks] <;> try simp (disch := omega) only [wrap_of])) | (refine hn _ _ ?_; clear hn hp Kn Kp) | (refine hp _ _ _ ?_; clear hn hp Kn Kp) | (refine awp_cond rfl (fun hb => ?_) (fun hb => ?_) <;> (try simp only [decide_eq_true_eq, decide_eq_false_iff_not, Bool.not_eq_true', Bool.not_eq_false', Bool.true_eq_false, Bool.false_eq_true, beq_iff_eq, bne_iff_ne, bne_eq_false_iff_eq, beq_eq_false_iff_ne, gt_iff_lt, ge_iff_le, Int.reduceEq, Int.reduceNe, Int.reduceLT, Int.reduceLE, ne_eq, not_true_eq_false, not_false_eq_true] at hb)) | ((first | refine awg_split (fun hb => ?_) (fun hb => ?_) | refine awsg_split (fun hb => ?_) (fun hb => ?_)) <;> have hb0 := hb <;> (try simp only [decide_eq_true_eq, decide_eq_false_iff_not, Bool.not_eq_true', Bool.not_eq_false', Bool.true_eq_false, Bool.false_eq_true, beq_iff_eq, bne_iff_ne, bne_eq_false_iff_eq, beq_eq_false_iff_ne, gt_iff_lt, ge_iff_le, Int.reduceEq, Int.reduceNe, Int.reduceLT, Int.reduceLE, ne_eq, not_true_eq_false, not_false_eq_true] at hb0) <;> (try simp only [beq_true, beq_false, Bool.not_eq_true', Bool.not_eq_false'] at hb) <;> (simp only [go_sem, Nat.reduceAdd, Nat.reduceSub, Nat.reduceMul, Nat.reduceLeDiff, Nat.reduceLT, Nat.reduceEqDiff, Int.reduceToNat, Int.reduceAdd, Int.reduceMul, Int.reduceSub, Int.reduceLT, Int.reduceLE, Int.reduceEq, Int.reduceNeg, Int.reduceBEq, Int.reduceBNe, ↓reduceIte, reduceCtorEq, startAns, hks, hb, hb0] <;> try simp (disch := omega) only [wrap_of])) | (refine And.intro ?_ ?_) | refine awp_skip ?_ | refine awp_ret ?_ | refine awp_exit ?_ | refine awp_label ?_ | refine awloop_step ?_ | fail)
    ((try simp only [go_sem, Nat.reduceAdd, Nat.reduceSub, Nat.reduceMul, Nat.reduceLeDiff, Nat.reduceLT, Nat.reduceEqDiff, Int.reduceToNat, Int.reduceAdd, Int.reduceMul, Int.reduceSub, Int.reduceLT, Int.reduceLE, Int.reduceEq, Int.reduceNeg, Int.reduceBEq, Int.reduceBNe, ↓reduceIte, reduceCtorEq]); (first | refine ⟨_, rfl, _, rfl, Fin.pure0 0 ?_⟩ | refine ⟨_, rfl, _, rfl, Fin.pure 1 ?_⟩); simp only [AV.low, List.map_cons, List.map_nil, aOne, aev, List.getElem?_cons_zero, List.getElem?_cons_succ, Option.getD_some, List.length_append, List.length_cons, List.length_nil, Nat.lt_irrefl, if_false]; try rfl)
    all_goals simp [ansC]
  | some vs =>
    by_cases h12 : 12 < p.vars.length
    · have h12' : decide (p.vars.length ≤ 12) = false := by simp; omega
      simp only [h12, if_true]
      (refine ARun.intro Tryz.func49 rfl Tryz.call49 Tryz.ntmps49 Tryz.results49 ?_; simp only [List.length_cons, List.length_nil, List.length_map, Nat.reduceAdd, Nat.reduceSub, List.replicate_succ, List.replicate_zero, List.cons_append, List.nil_append])
      repeat' (first | refine awp_seq ?_ | refine awp_block ?_ | refine awp_scope ?_ | ((first | refine awp_region_k fun Kn Kp hn hp => ?_ | refine oge_intro (by assumption) ?_ | (show AWE _ _ _ _ _ _ _ _ _; first | refine awe_intro (start_run p.vars hl _) ?_) | (show AWSF _ _ _ _ _ _ _ _ _ _ _; first | refine awsf_intro (start_run p.vars hl _) (fun hrun => ?_)) | (show OGE _ _ _ _ _ _ _; first | refine oge_intro (start_run p.vars hl _) ?_) | (show AWSE _ _ _ _ _ _ _ _ _ _ _; first | refine awse_intro (start_run p.vars hl _) (fun hrun => ?_)) | (show PGE _ _ _ _ _; first | refine pge_intro (start_run p.vars hl _) (fun tm' => ?_))) <;> (simp only [go_sem, Nat.reduceAdd, Nat.reduceSub, Nat.reduceMul, Nat.reduceLeDiff, Nat.reduceLT, Nat.reduceEqDiff, Int.reduceToNat, Int.reduceAdd, Int.reduceMul, Int.reduceSub, Int.reduceLT, Int.reduceLE, Int.reduceEq, Int.reduceNeg, Int.reduceBEq, Int.reduceBNe, ↓reduceIte, reduceCtorEq, startAns, hks, h12'] <;> try simp (disch := omega) only [wrap_of])) | (refine hn _ _ ?_; clear hn hp Kn Kp) | (refine hp _ _ _ ?_; clear hn hp Kn Kp) | (refine awp_cond rfl (fun hb => ?_) (fun hb => ?_) <;> (try simp only [decide_eq_true_eq, decide_eq_false_iff_not, Bool.not_eq_true', Bool.not_eq_false', Bool.true_eq_false, Bool.false_eq_true, beq_iff_eq, bne_iff_ne, bne_eq_false_iff_eq, beq_eq_false_iff_ne, gt_iff_lt, ge_iff_le, Int.reduceEq, Int.reduceNe, Int.reduceLT, Int.reduceLE, ne_eq, not_true_eq_false, not_false_eq_true] at hb)) | ((first | refine awg_split (fun hb => ?_) (fun hb => ?_) | refine awsg_split (fun hb => ?_) (fun hb => ?_)) <;> have hb0 := hb <;> (try simp only [decide_eq_true_eq, decide_eq_false_iff_not, Bool.not_eq_true', Bool.not_eq_false', Bool.true_eq_false, Bool.false_eq_true, beq_iff_eq, bne_iff_ne, bne_eq_false_iff_eq, beq_eq_false_iff_ne, gt_iff_lt, ge_iff_le, Int.reduceEq, Int.reduceNe, Int.reduceLT, Int.reduceLE, ne_eq, not_true_eq_false, not_false_eq_true] at hb0) <;> (try simp only [beq_true, beq_false, Bool.not_eq_true', Bool.not_eq_false'] at hb) <;> (simp only [go_sem, Nat.reduceAdd, Nat.reduceSub, Nat.reduceMul, Nat.reduceLeDiff, Nat.reduceLT, Nat.reduceEqDiff, Int.reduceToNat, Int.reduceAdd, Int.reduceMul, Int.reduceSub, Int.reduceLT, Int.reduceLE, Int.reduceEq, Int.reduceNeg, Int.reduceBEq, Int.reduceBNe, ↓reduceIte, reduceCtorEq, startAns, hks, h12', hb, hb0] <;> try simp (disch := omega) only [wrap_of])) | (refine And.intro ?_ ?_) | refine awp_skip ?_ | refine awp_ret ?_ | refine awp_exit ?_ | refine awp_label ?_ | refine awloop_step ?_ | fail)
      ((try simp only [go_sem, Nat.reduceAdd, Nat.reduceSub, Nat.reduceMul, Nat.reduceLeDiff, Nat.reduceLT, Nat.reduceEqDiff, Int.reduceToNat, Int.reduceAdd, Int.reduceMul, Int.reduceSub, Int.reduceLT, Int.reduceLE, Int.reduceEq, Int.reduceNeg, Int.reduceBEq, Int.reduceBNe, ↓reduceIte, reduceCtorEq]); (first | refine ⟨_, rfl, _, rfl, Fin.pure0 0 ?_⟩ | refine ⟨_, rfl, _, rfl, Fin.pure 1 ?_⟩); simp only [AV.low, List.map_cons, List.map_nil, aOne, aev, List.getElem?_cons_zero, List.getElem?_cons_succ, Option.getD_some, List.length_append, List.length_cons, List.length_nil, Nat.lt_irrefl, if_false]; try rfl)
      all_goals simp [ansC]
    · have h12' : decide (p.vars.length ≤ 12) = true := by simp; omega
      simp only [h12, if_false]
      have hvs := ksL_ok hks
      obtain ⟨⟨a0, b0⟩, ⟨a1, b1⟩, ⟨a2, b2⟩, ⟨a3, b3⟩, ⟨a4, b4⟩⟩ := hok
      have c0 := fun H0 => handler_run vs hvs p.on0 a0 b0 H0
      have c1 := fun H0 => handler_run vs hvs p.on1 a1 b1 H0
      have c2 := fun H0 => handler_run vs hvs p.on2 a2 b2 H0
      have c3 := fun H0 => handler_run vs hvs p.on3 a3 b3 H0
      have c4 := fun H0 => handler_run vs hvs p.on4 a4 b4 H0
      unfold evS
      (refine ARun.intro Tryz.func49 rfl Tryz.call49 Tryz.ntmps49 Tryz.results49 ?_; simp only [List.length_cons, List.length_nil, List.length_map, Nat.reduceAdd, Nat.reduceSub, List.replicate_succ, List.replicate_zero, List.cons_append, List.nil_append])
      repeat' (first | refine awp_seq ?_ | refine awp_block ?_ | refine awp_scope ?_ | ((first | refine awp_region_k fun Kn Kp hn hp => ?_ | refine oge_intro (by assumption) ?_ | (show AWE _ _ _ _ _ _ _ _ _; first | refine awe_intro (start_run p.vars hl _) ?_) | (show AWSF _ _ _ _ _ _ _ _ _ _ _; first | refine awsf_intro (start_run p.vars hl _) (fun hrun => ?_)) | (show OGE _ _ _ _ _ _ _; first | refine oge_intro (start_run p.vars hl _) ?_) | (show AWSE _ _ _ _ _ _ _ _ _ _ _; first | refine awse_intro (start_run p.vars hl _) (fun hrun => ?_)) | (show PGE _ _ _ _ _; first | refine pge_intro (start_run p.vars hl _) (fun tm' => ?_))) <;> (simp only [go_sem, Nat.reduceAdd, Nat.reduceSub, Nat.reduceMul, Nat.reduceLeDiff, Nat.reduceLT, Nat.reduceEqDiff, Int.reduceToNat, Int.reduceAdd, Int.reduceMul, Int.reduceSub, Int.reduceLT, Int.reduceLE, Int.reduceEq, Int.reduceNeg, Int.reduceBEq, Int.reduceBNe, ↓reduceIte, reduceCtorEq, startAns, hks, h12'] <;> try simp (disch := omega) only [wrap_of])) | (refine hn _ _ ?_; clear hn hp Kn Kp) | (refine hp _ _ _ ?_; clear hn hp Kn Kp) | (refine awp_cond rfl (fun hb => ?_) (fun hb => ?_) <;> (try simp only [decide_eq_true_eq, decide_eq_false_iff_not, Bool.not_eq_true', Bool.not_eq_false', Bool.true_eq_false, Bool.false_eq_true, beq_iff_eq, bne_iff_ne, bne_eq_false_iff_eq, beq_eq_false_iff_ne, gt_iff_lt, ge_iff_le, Int.reduceEq, Int.reduceNe, Int.reduceLT, Int.reduceLE, ne_eq, not_true_eq_false, not_false_eq_true] at hb)) | ((first | refine awg_split (fun hb => ?_) (fun hb => ?_) | refine awsg_split (fun hb => ?_) (fun hb => ?_)) <;> have hb0 := hb <;> (try simp only [decide_eq_true_eq, decide_eq_false_iff_not, Bool.not_eq_true', Bool.not_eq_false', Bool.true_eq_false, Bool.false_eq_true, beq_iff_eq, bne_iff_ne, bne_eq_false_iff_eq, beq_eq_false_iff_ne, gt_iff_lt, ge_iff_le, Int.reduceEq, Int.reduceNe, Int.reduceLT, Int.reduceLE, ne_eq, not_true_eq_false, not_false_eq_true] at hb0) <;> (try simp only [beq_true, beq_false, Bool.not_eq_true', Bool.not_eq_false'] at hb) <;> (simp only [go_sem, Nat.reduceAdd, Nat.reduceSub, Nat.reduceMul, Nat.reduceLeDiff, Nat.reduceLT, Nat.reduceEqDiff, Int.reduceToNat, Int.reduceAdd, Int.reduceMul, Int.reduceSub, Int.reduceLT, Int.reduceLE, Int.reduceEq, Int.reduceNeg, Int.reduceBEq, Int.reduceBNe, ↓reduceIte, reduceCtorEq, startAns, hks, h12', hb, hb0] <;> try simp (disch := omega) only [wrap_of])) | (refine And.intro ?_ ?_) | refine awp_skip ?_ | refine awp_ret ?_ | refine awp_exit ?_ | refine awp_label ?_ | refine awloop_step ?_ | fail)
      refine awp_loop 6 ?_
      repeat' (first | refine awp_seq ?_ | refine awp_block ?_ | refine awp_scope ?_ | ((first | refine awp_region_k fun Kn Kp hn hp => ?_ | refine oge_intro (by assumption) ?_ | (show AWE _ _ _ _ _ _ _ _ _; first | refine awe_intro (c0 _) ?_ | refine awe_intro (c1 _) ?_ | refine awe_intro (c2 _) ?_ | refine awe_intro (c3 _) ?_ | refine awe_intro (c4 _) ?_) | (show AWSF _ _ _ _ _ _ _ _ _ _ _; first | refine awsf_intro (c0 _) (fun hrun => ?_) | refine awsf_intro (c1 _) (fun hrun => ?_) | refine awsf_intro (c2 _) (fun hrun => ?_) | refine awsf_intro (c3 _) (fun hrun => ?_) | refine awsf_intro (c4 _) (fun hrun => ?_)) | (show OGE _ _ _ _ _ _ _; first | refine oge_intro (c0 _) ?_ | refine oge_intro (c1 _) ?_ | refine oge_intro (c2 _) ?_ | refine oge_intro (c3 _) ?_ | refine oge_intro (c4 _) ?_) | (show AWSE _ _ _ _ _ _ _ _ _ _ _; first | refine awse_intro (c0 _) (fun hrun => ?_) | refine awse_intro (c1 _) (fun hrun => ?_) | refine awse_intro (c2 _) (fun hrun => ?_) | refine awse_intro (c3 _) (fun hrun => ?_) | refine awse_intro (c4 _) (fun hrun => ?_)) | (show PGE _ _ _ _ _; first | refine pge_intro (c0 _) (fun tm' => ?_) | refine pge_intro (c1 _) (fun tm' => ?_) | refine pge_intro (c2 _) (fun tm' => ?_) | refine pge_intro (c3 _) (fun tm' => ?_) | refine pge_intro (c4 _) (fun tm' => ?_))) <;> (simp only [go_sem, Nat.reduceAdd, Nat.reduceSub, Nat.reduceMul, Nat.reduceLeDiff, Nat.reduceLT, Nat.reduceEqDiff, Int.reduceToNat, Int.reduceAdd, Int.reduceMul, Int.reduceSub, Int.reduceLT, Int.reduceLE, Int.reduceEq, Int.reduceNeg, Int.reduceBEq, Int.reduceBNe, ↓reduceIte, reduceCtorEq, Int.reduceAdd] <;> try simp (disch := omega) only [wrap_of])) | (refine hn _ _ ?_; clear hn hp Kn Kp) | (refine hp _ _ _ ?_; clear hn hp Kn Kp) | (refine awp_cond rfl (fun hb => ?_) (fun hb => ?_) <;> (try simp only [decide_eq_true_eq, decide_eq_false_iff_not, Bool.not_eq_true', Bool.not_eq_false', Bool.true_eq_false, Bool.false_eq_true, beq_iff_eq, bne_iff_ne, bne_eq_false_iff_eq, beq_eq_false_iff_ne, gt_iff_lt, ge_iff_le, Int.reduceEq, Int.reduceNe, Int.reduceLT, Int.reduceLE, ne_eq, not_true_eq_false, not_false_eq_true] at hb)) | ((first | refine awg_split (fun hb => ?_) (fun hb => ?_) | refine awsg_split (fun hb => ?_) (fun hb => ?_)) <;> have hb0 := hb <;> (try simp only [decide_eq_true_eq, decide_eq_false_iff_not, Bool.not_eq_true', Bool.not_eq_false', Bool.true_eq_false, Bool.false_eq_true, beq_iff_eq, bne_iff_ne, bne_eq_false_iff_eq, beq_eq_false_iff_ne, gt_iff_lt, ge_iff_le, Int.reduceEq, Int.reduceNe, Int.reduceLT, Int.reduceLE, ne_eq, not_true_eq_false, not_false_eq_true] at hb0) <;> (try simp only [beq_true, beq_false, Bool.not_eq_true', Bool.not_eq_false'] at hb) <;> (simp only [go_sem, Nat.reduceAdd, Nat.reduceSub, Nat.reduceMul, Nat.reduceLeDiff, Nat.reduceLT, Nat.reduceEqDiff, Int.reduceToNat, Int.reduceAdd, Int.reduceMul, Int.reduceSub, Int.reduceLT, Int.reduceLE, Int.reduceEq, Int.reduceNeg, Int.reduceBEq, Int.reduceBNe, ↓reduceIte, reduceCtorEq, Int.reduceAdd, hb, hb0] <;> try simp (disch := omega) only [wrap_of])) | (refine And.intro ?_ ?_) | refine awp_skip ?_ | refine awp_ret ?_ | refine awp_exit ?_ | refine awp_label ?_ | refine awloop_step ?_ | fail)
      all_goals
        ((try simp only [go_sem, Nat.reduceAdd, Nat.reduceSub, Nat.reduceMul, Nat.reduceLeDiff, Nat.reduceLT, Nat.reduceEqDiff, Int.reduceToNat, Int.reduceAdd, Int.reduceMul, Int.reduceSub, Int.reduceLT, Int.reduceLE, Int.reduceEq, Int.reduceNeg, Int.reduceBEq, Int.reduceBNe, ↓reduceIte, reduceCtorEq]); (first | refine ⟨_, rfl, _, rfl, Fin.pure0 0 ?_⟩ | refine ⟨_, rfl, _, rfl, Fin.pure 1 ?_⟩); simp only [AV.low, List.map_cons, List.map_nil, aOne, aev, List.getElem?_cons_zero, List.getElem?_cons_succ, Option.getD_some, List.length_append, List.length_cons, List.length_nil, Nat.lt_irrefl, if_false]; try rfl)
        simp [ansC, *]
end Go.Proofs.YtpfjlifneibhfaaGreat.Y
namespace Go.Proofs.YtpfjlifneibhfaaGreat.AL
def xw : Ex := .mk 2 0 0 []
def xnum (n u : Int) : Ex := .mk 1 n u []
def xtwo (op : Int) (a b : Ex) : Ex := .mk op 0 0 [a, b]
theorem hd1 : isS (xtwo 4 xw (xnum 1 1)) ⟨1, 0, 0⟩ = true := by decide
theorem hd2 : failsS (xtwo 4 xw (xnum 1 0)) 13 = true := by decide
end Go.Proofs.YtpfjlifneibhfaaGreat.AL
namespace Go.Proofs.YtpfjlifneibhfaaGreat.Y
open Go.Proofs.YtpfjlifneibhfaaGreat.AL Go.Proofs Go
attribute [local irreducible] AWP AWL AWG AWR AWE AWX AWO AWSeq AWSG AWSR AWSO AWSE AWSF GoodP OGW OGR OGE OGX PGW PGR PGE Wk AWLoop AWPD AWLD
theorem ksL_get : ∀ {l : List Vr} {us : List Un}, ksL l = some us → ∀ i : Nat, us[i]? = (l[i]?).bind fun v => ofK v.unit
  | [], us, h, i => by simp only [ksL, Option.some.injEq] at h; subst h; simp
  | v :: vs, us, h, i => by
    simp only [ksL] at h
    split at h
    · cases h
    · rename_i u hu
      split at h
      · cases h
      · rename_i ys hys
        simp only [Option.some.injEq] at h
        subst h
        cases i with
        | zero => simp [hu]
        | succ i => simpa using ksL_get hys i
def leafR (us : List Un) (e : Ex) : Except Int Un := if 0 < e.kids.length then .error 1 else leafS us e.op e.n e.unit
theorem Rleaf_run (l : List Vr) (us : List Un) (hks : ksL l = some us) (e : Ex) (H0 : List AObj) : ARun Tryz.prog 123 [.rs 5 (l.map encV), .ag (cE e)] H0 (.ret (ansU (leafR us e)) H0) := by
  have hg := ksL_get hks
  unfold leafR
  by_cases hk : 0 < e.kids.length
  · have hk' : (0 : Int) < e.kids.length := by omega
    simp only [hk, if_true]
    (refine ARun.intro Tryz.func123 rfl Tryz.call123 Tryz.ntmps123 Tryz.results123 ?_; simp only [List.length_cons, List.length_nil, List.length_map, Nat.reduceAdd, Nat.reduceSub, List.replicate_succ, List.replicate_zero, List.cons_append, List.nil_append])
    (have ww1 := hk'; refine wk ?_; clear ww1; (repeat' first | exact True.intro | refine Lf.mk ?_ ?_); all_goals intro hP)
    (refine resX ?_; try exact True.intro)
  · have hk' : ¬ (0 : Int) < e.kids.length := by omega
    simp only [hk, if_false]
    by_cases h1 : e.op = 1
    · by_cases hq : 0 ≤ e.n ∧ e.n ≤ 1000000000
      · obtain ⟨hn1, hn2⟩ := hq
        cases hku : ofK e.unit with
        | none =>
          (refine ARun.intro Tryz.func123 rfl Tryz.call123 Tryz.ntmps123 Tryz.results123 ?_; simp only [List.length_cons, List.length_nil, List.length_map, Nat.reduceAdd, Nat.reduceSub, List.replicate_succ, List.replicate_zero, List.cons_append, List.nil_append])
          (have ww1 := hk'; have ww2 := h1; have ww3 := hn1; have ww4 := hn2; have ww5 := @ofA.eq_1; have ww6 := hku; have cc1 := fun z1 z2 => ROf_run z1 z2; refine wk ?_; clear ww1 ww2 ww3 ww4 ww5 ww6 cc1; (repeat' first | exact True.intro | refine Lf.mk ?_ ?_); all_goals intro hP)
          (refine resX ?_; try exact True.intro)
          simp [leafS, h1, hn1, hn2, hku, ansU]
        | some u =>
          (refine ARun.intro Tryz.func123 rfl Tryz.call123 Tryz.ntmps123 Tryz.results123 ?_; simp only [List.length_cons, List.length_nil, List.length_map, Nat.reduceAdd, Nat.reduceSub, List.replicate_succ, List.replicate_zero, List.cons_append, List.nil_append])
          (have ww1 := hk'; have ww2 := h1; have ww3 := hn1; have ww4 := hn2; have ww5 := @ofA.eq_1; have ww6 := hku; have cc1 := fun z1 z2 => ROf_run z1 z2; refine wk ?_; clear ww1 ww2 ww3 ww4 ww5 ww6 cc1; (repeat' first | exact True.intro | refine Lf.mk ?_ ?_); all_goals intro hP)
          (refine resX ?_; try exact True.intro)
          simp [leafS, h1, hn1, hn2, hku, ansU]
      · (refine ARun.intro Tryz.func123 rfl Tryz.call123 Tryz.ntmps123 Tryz.results123 ?_; simp only [List.length_cons, List.length_nil, List.length_map, Nat.reduceAdd, Nat.reduceSub, List.replicate_succ, List.replicate_zero, List.cons_append, List.nil_append])
        have hof : ofA (-1) = .tup [.ag [.i 0, .i 0, .i 0], .i 9] := rfl
        repeat' (first | refine awp_seq ?_ | refine awp_block ?_ | refine awp_scope ?_ | ((first | refine awp_region_k fun Kn Kp hn hp => ?_ | refine oge_intro (by assumption) ?_ | (show AWE _ _ _ _ _ _ _ _ _; first | refine awe_intro (ROf_run _ _) ?_) | (show AWSF _ _ _ _ _ _ _ _ _ _ _; first | refine awsf_intro (ROf_run _ _) (fun hrun => ?_)) | (show OGE _ _ _ _ _ _ _; first | refine oge_intro (ROf_run _ _) ?_) | (show AWSE _ _ _ _ _ _ _ _ _ _ _; first | refine awse_intro (ROf_run _ _) (fun hrun => ?_)) | (show PGE _ _ _ _ _; first | refine pge_intro (ROf_run _ _) (fun tm' => ?_))) <;> (simp only [go_sem, Nat.reduceAdd, Nat.reduceSub, Nat.reduceMul, Nat.reduceLeDiff, Nat.reduceLT, Nat.reduceEqDiff, Int.reduceToNat, Int.reduceAdd, Int.reduceMul, Int.reduceSub, Int.reduceLT, Int.reduceLE, Int.reduceEq, Int.reduceNeg, Int.reduceBEq, Int.reduceBNe, ↓reduceIte, reduceCtorEq, hk', h1, hof] <;> try simp (disch := omega) only [wrap_of])) | (refine hn _ _ ?_; clear hn hp Kn Kp) | (refine hp _ _ _ ?_; clear hn hp Kn Kp) | (refine awp_cond rfl (fun hb => ?_) (fun hb => ?_) <;> (try simp only [decide_eq_true_eq, decide_eq_false_iff_not, Bool.not_eq_true', Bool.not_eq_false', Bool.true_eq_false, Bool.false_eq_true, beq_iff_eq, bne_iff_ne, bne_eq_false_iff_eq, beq_eq_false_iff_ne, gt_iff_lt, ge_iff_le, Int.reduceEq, Int.reduceNe, Int.reduceLT, Int.reduceLE, ne_eq, not_true_eq_false, not_false_eq_true] at hb)) | ((first | refine awg_split (fun hb => ?_) (fun hb => ?_) | refine awsg_split (fun hb => ?_) (fun hb => ?_)) <;> have hb0 := hb <;> (try simp only [decide_eq_true_eq, decide_eq_false_iff_not, Bool.not_eq_true', Bool.not_eq_false', Bool.true_eq_false, Bool.false_eq_true, beq_iff_eq, bne_iff_ne, bne_eq_false_iff_eq, beq_eq_false_iff_ne, gt_iff_lt, ge_iff_le, Int.reduceEq, Int.reduceNe, Int.reduceLT, Int.reduceLE, ne_eq, not_true_eq_false, not_false_eq_true] at hb0) <;> (try simp only [beq_true, beq_false, Bool.not_eq_true', Bool.not_eq_false'] at hb) <;> (simp only [go_sem, Nat.reduceAdd, Nat.reduceSub, Nat.reduceMul, Nat.reduceLeDiff, Nat.reduceLT, Nat.reduceEqDiff, Int.reduceToNat, Int.reduceAdd, Int.reduceMul, Int.reduceSub, Int.reduceLT, Int.reduceLE, Int.reduceEq, Int.reduceNeg, Int.reduceBEq, Int.reduceBNe, ↓reduceIte, reduceCtorEq, hk', h1, hof, hb, hb0] <;> try simp (disch := omega) only [wrap_of])) | (refine And.intro ?_ ?_) | refine awp_skip ?_ | refine awp_ret ?_ | refine awp_exit ?_ | refine awp_label ?_ | refine awloop_step ?_ | fail)
        all_goals first
          | omega
          | ((refine resX ?_; try exact True.intro)
             simp [leafS, h1, hq, ansU])
    · have h1' : (e.op == 1) = false := by simpa using h1
      by_cases h2 : e.op = 2
      · by_cases hq : 0 ≤ e.n
        · cases hv : l[e.n.toNat]? with
          | none =>
            have hlt : ¬ e.n < l.length := by rw [List.getElem?_eq_none_iff] at hv; omega
            have hu := hg e.n.toNat
            rw [hv] at hu
            have hof : ofA (-1) = .tup [.ag [.i 0, .i 0, .i 0], .i 9] := rfl
            (refine ARun.intro Tryz.func123 rfl Tryz.call123 Tryz.ntmps123 Tryz.results123 ?_; simp only [List.length_cons, List.length_nil, List.length_map, Nat.reduceAdd, Nat.reduceSub, List.replicate_succ, List.replicate_zero, List.cons_append, List.nil_append])
            (have ww1 := hk'; have ww2 := h2; have ww3 := h1'; have ww4 := hq; have ww5 := hlt; have ww6 := hof; have cc1 := fun z1 z2 => ROf_run z1 z2; refine wk ?_; clear ww1 ww2 ww3 ww4 ww5 ww6 cc1; (repeat' first | exact True.intro | refine Lf.mk ?_ ?_); all_goals intro hP)
            (refine resX ?_; try exact True.intro)
            simp [leafS, h2, hq, hu, ansU]
          | some v =>
            have hlt : e.n < l.length := by have := (List.getElem?_eq_some_iff.1 hv).1; omega
            have hu := hg e.n.toNat
            rw [hv] at hu
            simp only [Option.bind_some] at hu
            cases hku : ofK v.unit with
            | none =>
              (refine ARun.intro Tryz.func123 rfl Tryz.call123 Tryz.ntmps123 Tryz.results123 ?_; simp only [List.length_cons, List.length_nil, List.length_map, Nat.reduceAdd, Nat.reduceSub, List.replicate_succ, List.replicate_zero, List.cons_append, List.nil_append])
              (have ww1 := hk'; have ww2 := h2; have ww3 := h1'; have ww4 := hq; have ww5 := hlt; have ww6 := hv; have ww7 := @encV_eq; have ww8 := @ofA.eq_1; have ww9 := hku; have cc1 := fun z1 z2 => ROf_run z1 z2; refine wk ?_; clear ww1 ww2 ww3 ww4 ww5 ww6 ww7 ww8 ww9 cc1; (repeat' first | exact True.intro | refine Lf.mk ?_ ?_); all_goals intro hP)
              (refine resX ?_; try exact True.intro)
              simp [leafS, h2, hq, hu, hku, ansU]
            | some u =>
              (refine ARun.intro Tryz.func123 rfl Tryz.call123 Tryz.ntmps123 Tryz.results123 ?_; simp only [List.length_cons, List.length_nil, List.length_map, Nat.reduceAdd, Nat.reduceSub, List.replicate_succ, List.replicate_zero, List.cons_append, List.nil_append])
              (have ww1 := hk'; have ww2 := h2; have ww3 := h1'; have ww4 := hq; have ww5 := hlt; have ww6 := hv; have ww7 := @encV_eq; have ww8 := @ofA.eq_1; have ww9 := hku; have cc1 := fun z1 z2 => ROf_run z1 z2; refine wk ?_; clear ww1 ww2 ww3 ww4 ww5 ww6 ww7 ww8 ww9 cc1; (repeat' first | exact True.intro | refine Lf.mk ?_ ?_); all_goals intro hP)
              (refine resX ?_; try exact True.intro)
              simp [leafS, h2, hq, hu, hku, ansU]
        · (refine ARun.intro Tryz.func123 rfl Tryz.call123 Tryz.ntmps123 Tryz.results123 ?_; simp only [List.length_cons, List.length_nil, List.length_map, Nat.reduceAdd, Nat.reduceSub, List.replicate_succ, List.replicate_zero, List.cons_append, List.nil_append])
          have hof : ofA (-1) = .tup [.ag [.i 0, .i 0, .i 0], .i 9] := rfl
          (have ww1 := hk'; have ww2 := h2; have ww3 := h1'; have ww4 := hq; have ww5 := hof; have cc1 := fun z1 z2 => ROf_run z1 z2; refine wk ?_; clear ww1 ww2 ww3 ww4 ww5 cc1; (repeat' first | exact True.intro | refine Lf.mk ?_ ?_); all_goals intro hP)
          (refine resX ?_; try exact True.intro)
          simp [leafS, h2, hq, ansU]
      · have h2' : (e.op == 2) = false := by simpa using h2
        have hof : ofA (-1) = .tup [.ag [.i 0, .i 0, .i 0], .i 9] := rfl
        by_cases h3 : e.op = 3
        · by_cases hq : e.n = 0 ∨ e.n = 1 ∨ e.n = 2 ∨ e.n = 3
          · rcases hq with hc | hc | hc | hc
            all_goals
              simp only [leafS, h3, hc, Int.reduceEq, if_true, if_false, true_or, or_true, or_false, false_or, ansU]
              (refine ARun.intro Tryz.func123 rfl Tryz.call123 Tryz.ntmps123 Tryz.results123 ?_; simp only [List.length_cons, List.length_nil, List.length_map, Nat.reduceAdd, Nat.reduceSub, List.replicate_succ, List.replicate_zero, List.cons_append, List.nil_append])
              (have ww1 := hk'; have ww2 := h3; have ww3 := hc; have ww4 := @ofA.eq_1; have ww5 := @ofK.eq_1; have cc1 := fun z1 z2 => ROf_run z1 z2; refine wk ?_; clear ww1 ww2 ww3 ww4 ww5 cc1; (repeat' first | exact True.intro | refine Lf.mk ?_ ?_); all_goals intro hP)
              (refine resX ?_; try exact True.intro)
          · have q0 : (e.n == 0) = false := by simp; omega
            have q1 : (e.n == 1) = false := by simp; omega
            have q2 : (e.n == 2) = false := by simp; omega
            have q3 : (e.n == 3) = false := by simp; omega
            (refine ARun.intro Tryz.func123 rfl Tryz.call123 Tryz.ntmps123 Tryz.results123 ?_; simp only [List.length_cons, List.length_nil, List.length_map, Nat.reduceAdd, Nat.reduceSub, List.replicate_succ, List.replicate_zero, List.cons_append, List.nil_append])
            (have ww1 := hk'; have ww2 := h3; have ww3 := q0; have ww4 := q1; have ww5 := q2; have ww6 := q3; have ww7 := hof; have cc1 := fun z1 z2 => ROf_run z1 z2; refine wk ?_; clear ww1 ww2 ww3 ww4 ww5 ww6 ww7 cc1; (repeat' first | exact True.intro | refine Lf.mk ?_ ?_); all_goals intro hP)
            (refine resX ?_; try exact True.intro)
            simp only [leafS, h3, if_true, Int.reduceEq, if_false]
            rw [if_neg (by omega), if_neg (by omega), if_neg (by omega)]
            rfl
        · have h3' : (e.op == 3) = false := by simpa using h3
          (refine ARun.intro Tryz.func123 rfl Tryz.call123 Tryz.ntmps123 Tryz.results123 ?_; simp only [List.length_cons, List.length_nil, List.length_map, Nat.reduceAdd, Nat.reduceSub, List.replicate_succ, List.replicate_zero, List.cons_append, List.nil_append])
          (have ww1 := hk'; have ww2 := h1'; have ww3 := h2'; have ww4 := h3'; have ww5 := hof; have cc1 := fun z1 z2 => ROf_run z1 z2; refine wk ?_; clear ww1 ww2 ww3 ww4 ww5 cc1; (repeat' first | exact True.intro | refine Lf.mk ?_ ?_); all_goals intro hP)
          (refine resX ?_; try exact True.intro)
          simp [leafS, h1, h2, h3, ansU]
theorem Rleaf0 {l : List Vr} {us : List Un} (hks : ksL l = some us) (e : Ex) (x : Except Int Un) (hx : leafR us e = x) (H0 : List AObj) : ARun Tryz.prog 123 [.rs 5 (l.map encV), .ag (cE e)] H0 (.ret (ansU x) H0) := by
  subst hx; exact Rleaf_run l us hks e H0
def uz : Un := ⟨0, 0, 0⟩
def u0 (acc : List Un) : Un := acc[0]?.getD uz
def u1 (acc : List Un) : Un := acc[1]?.getD uz
theorem u0_snoc {acc : List Un} {x : Un} : u0 (acc ++ [x]) = if acc.length = 0 then x else u0 acc := by
  cases acc <;> simp [u0]
theorem u1_snoc {acc : List Un} {x : Un} : u1 (acc ++ [x]) = if acc.length = 1 then x else u1 acc := by
  rcases acc with _ | ⟨a, _ | ⟨b, r⟩⟩ <;> simp [u1]
theorem infL_len {us : List Un} : ∀ {l : List Ex} {r : List Un}, infL us l = .ok r → r.length = l.length
  | [], r, h => by simp only [infL, Except.ok.injEq] at h; subst h; rfl
  | e :: es, r, h => by
    simp only [infL] at h
    split at h
    · cases h
    · split at h
      · cases h
      · rename_i ys hys
        simp only [Except.ok.injEq] at h
        subst h
        simp [infL_len hys]
abbrev fitB (n : Int) : Bool := decide (-4 ≤ n ∧ n ≤ 4)
theorem ok_fit (u : Un) : u.ok ↔ (fitB u.p = true ∧ fitB u.b = true ∧ fitB u.t = true) := by
  simp only [Un.ok, fitB, decide_eq_true_eq]; omega
theorem Rexpr_run (l : List Vr) (us : List Un) (hks : ksL l = some us) (e : Ex) : ∀ (H0 : List AObj), ARun Tryz.prog 116 [.rs 5 (l.map encV), .ag (cE e)] H0 (.ret (ansU (inf us e)) H0) := by
  have hus := ksL_ok hks
  induction e using Ex.ind with
  | h e ih =>
    intro H0
    (refine ARun.intro Tryz.func116 rfl Tryz.call116 Tryz.ntmps116 Tryz.results116 ?_; simp only [List.length_cons, List.length_nil, List.length_map, Nat.reduceAdd, Nat.reduceSub, List.replicate_succ, List.replicate_zero, List.cons_append, List.nil_append])
    refine awp_len_agg 1 3 rfl rfl fun hlen => ?_
    rw [List.length_map] at hlen
    (refine wk ?_; (repeat' first | exact True.intro | refine Lf.mk ?_ ?_); all_goals intro hP)
    refine awp_loop_ind (σ := Nat × List Un) (fun s => e.kids.length - s.1)
      (fun s => s.2.length = s.1 ∧ s.1 ≤ e.kids.length ∧ (∀ u ∈ s.2, u.ok) ∧ infL us e.kids = match infL us (e.kids.drop s.1) with | .ok r => .ok (s.2 ++ r) | .error x => .error x)
      (fun s => (.rs 5 (l.map encV) :: .any :: .any :: .p H0.length 0 :: .p (H0.length + 1) 0 :: .any :: .p (H0.length + 2) 0 :: .i s.1 :: .any :: .any :: .any :: .any :: .any :: .any :: .any :: .any :: .any :: .any :: .any :: .any :: .any :: .any :: .any :: .any :: .any :: .any :: .any :: .any :: .any :: .any :: .any :: .any :: .any :: .any :: .any :: .any :: .any :: .any :: .any :: .any :: .any :: .any :: .any :: .any :: .any :: .any :: .any :: .any :: .any :: .any :: .any :: .any :: .any :: .any :: .any :: .any :: .any :: .any :: .any :: .any :: .any :: .any :: .any :: .any :: .any :: .any :: .any :: .any :: .any :: .any :: .any :: .any :: .any :: .any :: .any :: .any :: .any :: .any :: .any :: .any :: .any :: .any :: .any :: .any :: .any :: .any :: .any :: .any :: .any :: .any :: .any :: .any :: .any :: .any :: .any :: .any :: .any :: .any :: .any :: .any :: .any :: .any :: .any :: .any :: .any :: .any :: .any :: .any :: .any :: .any :: .any :: .any :: .any :: .any :: .any :: .any :: .any :: .any :: .any :: .any :: .any :: .any :: .any :: .any :: .any :: .any :: .any :: .any :: .any :: .any :: .any :: .any :: .any :: .any :: .any :: .any :: .any :: .any :: .any :: .any :: .any :: .any :: .any :: .any :: .any :: .any :: .any :: .any :: .any :: .any :: .any :: .any :: .any :: []))
      (fun s => H0 ++ [.cells 33 [.i e.op, .i e.n, .i e.unit, .rs 4 (e.kids.map encE)], .cells 119 [.i 0, .i 0, .i 0], .cells 138 [.i (u0 s.2).p, .i (u0 s.2).b, .i (u0 s.2).t, .i (u1 s.2).p, .i (u1 s.2).b, .i (u1 s.2).t]]) (0, [])
      ⟨rfl, Nat.zero_le _, by simp, by simp only [List.drop_zero, List.nil_append]; cases infL us e.kids <;> rfl⟩
      (by (refine fgtX ?_; try exact True.intro)) ?_
    rintro ⟨i, acc⟩ ⟨h1, h2, h3, h4⟩
    simp only at h1 h2 h3 h4 ⊢
    cases hr : e.kids.drop i with
    | nil =>
      have hlt := drop_nil hr
      rw [hr] at h4
      simp only [infL, List.append_nil] at h4
      have hinf : inf us e = node us e.op e.n e.unit acc := by rw [inf_eq, h4]
      have hkl : e.kids.length = acc.length := by
        have := infL_len h4; omega
      rw [hinf]
      by_cases hop : e.op = 1 ∨ e.op = 2 ∨ e.op = 3
      · have hlf : leafR us e = node us e.op e.n e.unit acc := by
          unfold leafR
          rw [hkl]
          rcases acc with _ | ⟨a, _ | ⟨b, _ | ⟨c, rs⟩⟩⟩
          · simp [node]
          · simp [node]
          · simp only [node, List.length_cons, List.length_nil]
            rw [if_pos (by omega), if_neg (by omega)]
          · simp [node]
        have hlf := fun H0 => Rleaf0 hks e _ hlf H0
        have hc3 : (e.op == 1 || e.op == 2 || e.op == 3) = true := by
          rcases hop with h | h | h <;> simp [h]
        cases hnd : node us e.op e.n e.unit acc with
        | ok u =>
          simp only [hnd, ansU] at hlf
          repeat' (first | refine awp_seq ?_ | refine awp_block ?_ | refine awp_scope ?_ | ((first | refine awp_region_k fun Kn Kp hn hp => ?_ | refine oge_intro (by assumption) ?_ | (show AWE _ _ _ _ _ _ _ _ _; first | refine awe_intro (hlf _) ?_) | (show AWSF _ _ _ _ _ _ _ _ _ _ _; first | refine awsf_intro (hlf _) (fun hrun => ?_)) | (show OGE _ _ _ _ _ _ _; first | refine oge_intro (hlf _) ?_) | (show AWSE _ _ _ _ _ _ _ _ _ _ _; first | refine awse_intro (hlf _) (fun hrun => ?_)) | (show PGE _ _ _ _ _; first | refine pge_intro (hlf _) (fun tm' => ?_))) <;> (simp only [go_sem, Nat.reduceAdd, Nat.reduceSub, Nat.reduceMul, Nat.reduceLeDiff, Nat.reduceLT, Nat.reduceEqDiff, Int.reduceToNat, Int.reduceAdd, Int.reduceMul, Int.reduceSub, Int.reduceLT, Int.reduceLE, Int.reduceEq, Int.reduceNeg, Int.reduceBEq, Int.reduceBNe, ↓reduceIte, reduceCtorEq, hlt] <;> try simp (disch := omega) only [wrap_of])) | (refine hn _ _ ?_; clear hn hp Kn Kp) | (refine hp _ _ _ ?_; clear hn hp Kn Kp) | (refine awp_cond rfl (fun hb => ?_) (fun hb => ?_) <;> (try simp only [decide_eq_true_eq, decide_eq_false_iff_not, Bool.not_eq_true', Bool.not_eq_false', Bool.true_eq_false, Bool.false_eq_true, beq_iff_eq, bne_iff_ne, bne_eq_false_iff_eq, beq_eq_false_iff_ne, gt_iff_lt, ge_iff_le, Int.reduceEq, Int.reduceNe, Int.reduceLT, Int.reduceLE, ne_eq, not_true_eq_false, not_false_eq_true] at hb)) | ((first | refine awg_split (fun hb => ?_) (fun hb => ?_) | refine awsg_split (fun hb => ?_) (fun hb => ?_)) <;> have hb0 := hb <;> (try simp only [decide_eq_true_eq, decide_eq_false_iff_not, Bool.not_eq_true', Bool.not_eq_false', Bool.true_eq_false, Bool.false_eq_true, beq_iff_eq, bne_iff_ne, bne_eq_false_iff_eq, beq_eq_false_iff_ne, gt_iff_lt, ge_iff_le, Int.reduceEq, Int.reduceNe, Int.reduceLT, Int.reduceLE, ne_eq, not_true_eq_false, not_false_eq_true] at hb0) <;> (try simp only [beq_true, beq_false, Bool.not_eq_true', Bool.not_eq_false'] at hb) <;> (simp only [go_sem, Nat.reduceAdd, Nat.reduceSub, Nat.reduceMul, Nat.reduceLeDiff, Nat.reduceLT, Nat.reduceEqDiff, Int.reduceToNat, Int.reduceAdd, Int.reduceMul, Int.reduceSub, Int.reduceLT, Int.reduceLE, Int.reduceEq, Int.reduceNeg, Int.reduceBEq, Int.reduceBNe, ↓reduceIte, reduceCtorEq, hlt, hb] <;> try simp (disch := omega) only [wrap_of])) | (refine And.intro ?_ ?_) | refine awp_skip ?_ | refine awp_ret ?_ | refine awp_exit ?_ | refine awp_label ?_ | refine awloop_step ?_ | fail)
          all_goals first
            | omega
            | ((refine resX ?_; try exact True.intro))
        | error x =>
          simp only [hnd, ansU] at hlf
          repeat' (first | refine awp_seq ?_ | refine awp_block ?_ | refine awp_scope ?_ | ((first | refine awp_region_k fun Kn Kp hn hp => ?_ | refine oge_intro (by assumption) ?_ | (show AWE _ _ _ _ _ _ _ _ _; first | refine awe_intro (hlf _) ?_) | (show AWSF _ _ _ _ _ _ _ _ _ _ _; first | refine awsf_intro (hlf _) (fun hrun => ?_)) | (show OGE _ _ _ _ _ _ _; first | refine oge_intro (hlf _) ?_) | (show AWSE _ _ _ _ _ _ _ _ _ _ _; first | refine awse_intro (hlf _) (fun hrun => ?_)) | (show PGE _ _ _ _ _; first | refine pge_intro (hlf _) (fun tm' => ?_))) <;> (simp only [go_sem, Nat.reduceAdd, Nat.reduceSub, Nat.reduceMul, Nat.reduceLeDiff, Nat.reduceLT, Nat.reduceEqDiff, Int.reduceToNat, Int.reduceAdd, Int.reduceMul, Int.reduceSub, Int.reduceLT, Int.reduceLE, Int.reduceEq, Int.reduceNeg, Int.reduceBEq, Int.reduceBNe, ↓reduceIte, reduceCtorEq, hlt] <;> try simp (disch := omega) only [wrap_of])) | (refine hn _ _ ?_; clear hn hp Kn Kp) | (refine hp _ _ _ ?_; clear hn hp Kn Kp) | (refine awp_cond rfl (fun hb => ?_) (fun hb => ?_) <;> (try simp only [decide_eq_true_eq, decide_eq_false_iff_not, Bool.not_eq_true', Bool.not_eq_false', Bool.true_eq_false, Bool.false_eq_true, beq_iff_eq, bne_iff_ne, bne_eq_false_iff_eq, beq_eq_false_iff_ne, gt_iff_lt, ge_iff_le, Int.reduceEq, Int.reduceNe, Int.reduceLT, Int.reduceLE, ne_eq, not_true_eq_false, not_false_eq_true] at hb)) | ((first | refine awg_split (fun hb => ?_) (fun hb => ?_) | refine awsg_split (fun hb => ?_) (fun hb => ?_)) <;> have hb0 := hb <;> (try simp only [decide_eq_true_eq, decide_eq_false_iff_not, Bool.not_eq_true', Bool.not_eq_false', Bool.true_eq_false, Bool.false_eq_true, beq_iff_eq, bne_iff_ne, bne_eq_false_iff_eq, beq_eq_false_iff_ne, gt_iff_lt, ge_iff_le, Int.reduceEq, Int.reduceNe, Int.reduceLT, Int.reduceLE, ne_eq, not_true_eq_false, not_false_eq_true] at hb0) <;> (try simp only [beq_true, beq_false, Bool.not_eq_true', Bool.not_eq_false'] at hb) <;> (simp only [go_sem, Nat.reduceAdd, Nat.reduceSub, Nat.reduceMul, Nat.reduceLeDiff, Nat.reduceLT, Nat.reduceEqDiff, Int.reduceToNat, Int.reduceAdd, Int.reduceMul, Int.reduceSub, Int.reduceLT, Int.reduceLE, Int.reduceEq, Int.reduceNeg, Int.reduceBEq, Int.reduceBNe, ↓reduceIte, reduceCtorEq, hlt, hb] <;> try simp (disch := omega) only [wrap_of])) | (refine And.intro ?_ ?_) | refine awp_skip ?_ | refine awp_ret ?_ | refine awp_exit ?_ | refine awp_label ?_ | refine awloop_step ?_ | fail)
          all_goals first
            | omega
            | ((refine resX ?_; try exact True.intro))
      · have o1 : (e.op == 1) = false := by simp; omega
        have o2 : (e.op == 2) = false := by simp; omega
        have o3 : (e.op == 3) = false := by simp; omega
        by_cases hb2 : acc.length = 2 ∧ 4 ≤ e.op ∧ e.op ≤ 10
        · obtain ⟨ha, ho1, ho2⟩ := hb2
          obtain ⟨a, b, rfl⟩ : ∃ a b, acc = [a, b] := by
            match acc, ha with | [a, b], _ => exact ⟨a, b, rfl⟩
          have hk2 : ((e.kids.length : Int) != 2) = false := by rw [hkl]; rfl
          have g1 : ¬ e.op < 4 := by omega
          have g2 : ¬ 10 < e.op := by omega
          simp only [node, ho1, ho2, and_self, if_true, u0, u1, List.getElem?_cons_zero, List.getElem?_cons_succ, Option.getD_some]
          have oka := h3 a (by simp)
          have okb := h3 b (by simp)
          by_cases h6 : e.op = 6
          · have w1 : IntKind.i64.wrap (a.p + b.p) = a.p + b.p := wrap_of (by have := oka; have := okb; unfold Un.ok at *; omega) (by have := oka; have := okb; unfold Un.ok at *; omega)
            have w2 : IntKind.i64.wrap (a.b + b.b) = a.b + b.b := wrap_of (by have := oka; have := okb; unfold Un.ok at *; omega) (by have := oka; have := okb; unfold Un.ok at *; omega)
            have w3 : IntKind.i64.wrap (a.t + b.t) = a.t + b.t := wrap_of (by have := oka; have := okb; unfold Un.ok at *; omega) (by have := oka; have := okb; unfold Un.ok at *; omega)
            have hf := ok_fit (a.add b 1)
            simp only [Un.add, Int.one_mul] at hf
            simp only [comb, h6, if_true, Un.add, Int.one_mul]
            (have ww1 := hlt; have ww2 := hk2; have ww3 := h6; have ww4 := w1; have ww5 := w2; have ww6 := w3; have cc1 := fun z1 z2 => fits_run z1 z2; refine wk ?_; clear ww1 ww2 ww3 ww4 ww5 ww6 cc1; (repeat' first | exact True.intro | refine Lf.mk ?_ ?_); all_goals intro hP)
            all_goals
              (refine resX ?_; try exact True.intro)
              simp_all [ansU]
          · have h6' : (e.op == 6) = false := by simpa using h6
            by_cases h78 : e.op = 7 ∨ e.op = 8
            · have w1 : IntKind.i64.wrap (a.p - b.p) = a.p - b.p := wrap_of (by have := oka; have := okb; unfold Un.ok at *; omega) (by have := oka; have := okb; unfold Un.ok at *; omega)
              have w2 : IntKind.i64.wrap (a.b - b.b) = a.b - b.b := wrap_of (by have := oka; have := okb; unfold Un.ok at *; omega) (by have := oka; have := okb; unfold Un.ok at *; omega)
              have w3 : IntKind.i64.wrap (a.t - b.t) = a.t - b.t := wrap_of (by have := oka; have := okb; unfold Un.ok at *; omega) (by have := oka; have := okb; unfold Un.ok at *; omega)
              have hf := ok_fit (a.add b (-1))
              have hadd : a.add b (-1) = ⟨a.p - b.p, a.b - b.b, a.t - b.t⟩ := by
                simp only [Un.add, Un.mk.injEq]; omega
              rw [hadd] at hf
              simp only [comb, h6, h78, if_true, if_false]
              rw [hadd]
              repeat' (first | refine awp_seq ?_ | refine awp_block ?_ | refine awp_scope ?_ | ((first | refine awp_region_k fun Kn Kp hn hp => ?_ | refine oge_intro (by assumption) ?_ | (show AWE _ _ _ _ _ _ _ _ _; first | refine awe_intro (fits_run _ _) ?_) | (show AWSF _ _ _ _ _ _ _ _ _ _ _; first | refine awsf_intro (fits_run _ _) (fun hrun => ?_)) | (show OGE _ _ _ _ _ _ _; first | refine oge_intro (fits_run _ _) ?_) | (show AWSE _ _ _ _ _ _ _ _ _ _ _; first | refine awse_intro (fits_run _ _) (fun hrun => ?_)) | (show PGE _ _ _ _ _; first | refine pge_intro (fits_run _ _) (fun tm' => ?_))) <;> (simp only [go_sem, Nat.reduceAdd, Nat.reduceSub, Nat.reduceMul, Nat.reduceLeDiff, Nat.reduceLT, Nat.reduceEqDiff, Int.reduceToNat, Int.reduceAdd, Int.reduceMul, Int.reduceSub, Int.reduceLT, Int.reduceLE, Int.reduceEq, Int.reduceNeg, Int.reduceBEq, Int.reduceBNe, ↓reduceIte, reduceCtorEq, hlt, hk2, g1, g2, o1, o2, o3, h6', w1, w2, w3] <;> try simp (disch := omega) only [wrap_of])) | (refine hn _ _ ?_; clear hn hp Kn Kp) | (refine hp _ _ _ ?_; clear hn hp Kn Kp) | (refine awp_cond rfl (fun hb => ?_) (fun hb => ?_) <;> (try simp only [decide_eq_true_eq, decide_eq_false_iff_not, Bool.not_eq_true', Bool.not_eq_false', Bool.true_eq_false, Bool.false_eq_true, beq_iff_eq, bne_iff_ne, bne_eq_false_iff_eq, beq_eq_false_iff_ne, gt_iff_lt, ge_iff_le, Int.reduceEq, Int.reduceNe, Int.reduceLT, Int.reduceLE, ne_eq, not_true_eq_false, not_false_eq_true] at hb)) | ((first | refine awg_split (fun hb => ?_) (fun hb => ?_) | refine awsg_split (fun hb => ?_) (fun hb => ?_)) <;> have hb0 := hb <;> (try simp only [decide_eq_true_eq, decide_eq_false_iff_not, Bool.not_eq_true', Bool.not_eq_false', Bool.true_eq_false, Bool.false_eq_true, beq_iff_eq, bne_iff_ne, bne_eq_false_iff_eq, beq_eq_false_iff_ne, gt_iff_lt, ge_iff_le, Int.reduceEq, Int.reduceNe, Int.reduceLT, Int.reduceLE, ne_eq, not_true_eq_false, not_false_eq_true] at hb0) <;> (try simp only [beq_true, beq_false, Bool.not_eq_true', Bool.not_eq_false'] at hb) <;> (simp only [go_sem, Nat.reduceAdd, Nat.reduceSub, Nat.reduceMul, Nat.reduceLeDiff, Nat.reduceLT, Nat.reduceEqDiff, Int.reduceToNat, Int.reduceAdd, Int.reduceMul, Int.reduceSub, Int.reduceLT, Int.reduceLE, Int.reduceEq, Int.reduceNeg, Int.reduceBEq, Int.reduceBNe, ↓reduceIte, reduceCtorEq, hlt, hk2, g1, g2, o1, o2, o3, h6', w1, w2, w3, hb, hb0] <;> try simp (disch := omega) only [wrap_of])) | (refine And.intro ?_ ?_) | refine awp_skip ?_ | refine awp_ret ?_ | refine awp_exit ?_ | refine awp_label ?_ | refine awloop_step ?_ | fail)
              all_goals first
                | omega
                | ((refine resX ?_; try exact True.intro)
                   simp_all [ansU])
            · have h7 : (e.op == 7) = false := by simp; omega
              have h8 : (e.op == 8) = false := by simp; omega
              simp only [comb, h6, h78, if_false]
              have hE := eqU a b
              have hoka := (ok_fit a).1 oka
              by_cases hab : a = b
              · rw [decide_eq_true hab] at hE
                repeat' (first | refine awp_seq ?_ | refine awp_block ?_ | refine awp_scope ?_ | ((first | refine awp_region_k fun Kn Kp hn hp => ?_ | refine oge_intro (by assumption) ?_ | (show AWE _ _ _ _ _ _ _ _ _; first | refine awe_intro (fits_run _ _) ?_) | (show AWSF _ _ _ _ _ _ _ _ _ _ _; first | refine awsf_intro (fits_run _ _) (fun hrun => ?_)) | (show OGE _ _ _ _ _ _ _; first | refine oge_intro (fits_run _ _) ?_) | (show AWSE _ _ _ _ _ _ _ _ _ _ _; first | refine awse_intro (fits_run _ _) (fun hrun => ?_)) | (show PGE _ _ _ _ _; first | refine pge_intro (fits_run _ _) (fun tm' => ?_))) <;> (simp only [go_sem, Nat.reduceAdd, Nat.reduceSub, Nat.reduceMul, Nat.reduceLeDiff, Nat.reduceLT, Nat.reduceEqDiff, Int.reduceToNat, Int.reduceAdd, Int.reduceMul, Int.reduceSub, Int.reduceLT, Int.reduceLE, Int.reduceEq, Int.reduceNeg, Int.reduceBEq, Int.reduceBNe, ↓reduceIte, reduceCtorEq, hlt, hk2, g1, g2, o1, o2, o3, h6', h7, h8, eqs34, eqg34, hE, hoka.1, hoka.2.1, hoka.2.2] <;> try simp (disch := omega) only [wrap_of])) | (refine hn _ _ ?_; clear hn hp Kn Kp) | (refine hp _ _ _ ?_; clear hn hp Kn Kp) | (refine awp_cond rfl (fun hb => ?_) (fun hb => ?_) <;> (try simp only [decide_eq_true_eq, decide_eq_false_iff_not, Bool.not_eq_true', Bool.not_eq_false', Bool.true_eq_false, Bool.false_eq_true, beq_iff_eq, bne_iff_ne, bne_eq_false_iff_eq, beq_eq_false_iff_ne, gt_iff_lt, ge_iff_le, Int.reduceEq, Int.reduceNe, Int.reduceLT, Int.reduceLE, ne_eq, not_true_eq_false, not_false_eq_true] at hb)) | ((first | refine awg_split (fun hb => ?_) (fun hb => ?_) | refine awsg_split (fun hb => ?_) (fun hb => ?_)) <;> have hb0 := hb <;> (try simp only [decide_eq_true_eq, decide_eq_false_iff_not, Bool.not_eq_true', Bool.not_eq_false', Bool.true_eq_false, Bool.false_eq_true, beq_iff_eq, bne_iff_ne, bne_eq_false_iff_eq, beq_eq_false_iff_ne, gt_iff_lt, ge_iff_le, Int.reduceEq, Int.reduceNe, Int.reduceLT, Int.reduceLE, ne_eq, not_true_eq_false, not_false_eq_true] at hb0) <;> (try simp only [beq_true, beq_false, Bool.not_eq_true', Bool.not_eq_false'] at hb) <;> (simp only [go_sem, Nat.reduceAdd, Nat.reduceSub, Nat.reduceMul, Nat.reduceLeDiff, Nat.reduceLT, Nat.reduceEqDiff, Int.reduceToNat, Int.reduceAdd, Int.reduceMul, Int.reduceSub, Int.reduceLT, Int.reduceLE, Int.reduceEq, Int.reduceNeg, Int.reduceBEq, Int.reduceBNe, ↓reduceIte, reduceCtorEq, hlt, hk2, g1, g2, o1, o2, o3, h6', h7, h8, eqs34, eqg34, hE, hoka.1, hoka.2.1, hoka.2.2, hb, hb0] <;> try simp (disch := omega) only [wrap_of])) | (refine And.intro ?_ ?_) | refine awp_skip ?_ | refine awp_ret ?_ | refine awp_exit ?_ | refine awp_label ?_ | refine awloop_step ?_ | fail)
                all_goals
                  (refine resX ?_; try exact True.intro)
                  simp [ansU, hab]
              · rw [decide_eq_false hab] at hE
                (have ww1 := hlt; have ww2 := hk2; have ww3 := g1; have ww4 := g2; have ww5 := o1; have ww6 := o2; have ww7 := o3; have ww8 := h6'; have ww9 := h7; have ww10 := h8; have ww11 := @eqs34; have ww12 := @eqg34; have ww13 := hE; have cc1 := fun z1 z2 => fits_run z1 z2; refine wk ?_; clear ww1 ww2 ww3 ww4 ww5 ww6 ww7 ww8 ww9 ww10 ww11 ww12 ww13 cc1; (repeat' first | exact True.intro | refine Lf.mk ?_ ?_); all_goals intro hP)
                all_goals
                  (refine resX ?_; try exact True.intro)
                  simp [ansU, hab]
        · have hnd : node us e.op e.n e.unit acc = .error 1 := by
            rcases acc with _ | ⟨a, _ | ⟨b, _ | ⟨c, rs⟩⟩⟩
            · simp only [node, leafS]
              rw [if_neg (by omega), if_neg (by omega), if_neg (by omega)]
            · simp [node]
            · simp only [node]
              rw [if_neg (by simpa using hb2)]
            · simp [node]
          rw [hnd]
          repeat' (first | refine awp_seq ?_ | refine awp_block ?_ | refine awp_scope ?_ | ((first | refine awp_region_k fun Kn Kp hn hp => ?_ | refine oge_intro (by assumption) ?_) <;> (simp only [go_sem, Nat.reduceAdd, Nat.reduceSub, Nat.reduceMul, Nat.reduceLeDiff, Nat.reduceLT, Nat.reduceEqDiff, Int.reduceToNat, Int.reduceAdd, Int.reduceMul, Int.reduceSub, Int.reduceLT, Int.reduceLE, Int.reduceEq, Int.reduceNeg, Int.reduceBEq, Int.reduceBNe, ↓reduceIte, reduceCtorEq, hlt, o1, o2, o3] <;> try simp (disch := omega) only [wrap_of])) | (refine hn _ _ ?_; clear hn hp Kn Kp) | (refine hp _ _ _ ?_; clear hn hp Kn Kp) | (refine awp_cond rfl (fun hb => ?_) (fun hb => ?_) <;> (try simp only [decide_eq_true_eq, decide_eq_false_iff_not, Bool.not_eq_true', Bool.not_eq_false', Bool.true_eq_false, Bool.false_eq_true, beq_iff_eq, bne_iff_ne, bne_eq_false_iff_eq, beq_eq_false_iff_ne, gt_iff_lt, ge_iff_le, Int.reduceEq, Int.reduceNe, Int.reduceLT, Int.reduceLE, ne_eq, not_true_eq_false, not_false_eq_true] at hb)) | ((first | refine awg_split (fun hb => ?_) (fun hb => ?_) | refine awsg_split (fun hb => ?_) (fun hb => ?_)) <;> have hb0 := hb <;> (try simp only [decide_eq_true_eq, decide_eq_false_iff_not, Bool.not_eq_true', Bool.not_eq_false', Bool.true_eq_false, Bool.false_eq_true, beq_iff_eq, bne_iff_ne, bne_eq_false_iff_eq, beq_eq_false_iff_ne, gt_iff_lt, ge_iff_le, Int.reduceEq, Int.reduceNe, Int.reduceLT, Int.reduceLE, ne_eq, not_true_eq_false, not_false_eq_true] at hb0) <;> (try simp only [beq_true, beq_false, Bool.not_eq_true', Bool.not_eq_false'] at hb) <;> (simp only [go_sem, Nat.reduceAdd, Nat.reduceSub, Nat.reduceMul, Nat.reduceLeDiff, Nat.reduceLT, Nat.reduceEqDiff, Int.reduceToNat, Int.reduceAdd, Int.reduceMul, Int.reduceSub, Int.reduceLT, Int.reduceLE, Int.reduceEq, Int.reduceNeg, Int.reduceBEq, Int.reduceBNe, ↓reduceIte, reduceCtorEq, hlt, o1, o2, o3, hb, hb0] <;> try simp (disch := omega) only [wrap_of])) | (refine And.intro ?_ ?_) | refine awp_skip ?_ | refine awp_ret ?_ | refine awp_exit ?_ | refine awp_label ?_ | refine awloop_step ?_ | fail)
          all_goals first
            | omega
            | ((refine resX ?_; try exact True.intro))
    | cons k rest =>
      obtain ⟨hk, hlt, hd, hm⟩ := drop_cons hr
      rw [hr] at h4
      simp only [infL] at h4
      have hih := fun H0 => ih k hm H0
      cases hik : inf us k with
      | error x =>
        have hx := inf_err us k x hik
        have hx0 : (x != 0) = true := by simp; omega
        simp only [hik] at h4
        have hinf : inf us e = .error x := by rw [inf_eq, h4]
        rw [hinf]
        simp only [hik, ansU] at hih
        (have ww1 := hlt; have ww2 := hk; have ww3 := @encE_eq; have ww4 := hx0; have cc1 := fun z1 => hih z1; refine wk ?_; clear ww1 ww2 ww3 ww4 cc1; (repeat' first | exact True.intro | refine Lf.mk ?_ ?_); all_goals intro hP)
        (refine resX ?_; try exact True.intro)
        all_goals simp [ansU]
      | ok u =>
        simp only [hik] at h4
        simp only [hik, ansU] at hih
        have hu := inf_ok us hus k u hik
        by_cases hi2 : i < 2
        · have hi2' : (i : Int) < 2 := by omega
          have hc : i = 0 ∨ i = 1 := by omega
          rcases hc with rfl | rfl
          all_goals
            simp only [Int.cast_ofNat_Int, Int.natCast_zero, Int.natCast_one] at hlt hi2'
            (have ww1 := hlt; have ww2 := hk; have ww3 := @encE_eq; have ww4 := hi2'; have cc1 := fun z1 => hih z1; refine wk ?_; clear ww1 ww2 ww3 ww4 cc1; (repeat' first | exact True.intro | refine Lf.mk ?_ ?_); all_goals intro hP)
            first
              | refine ⟨(0 + 1, acc ++ [u]), by simp only; omega, ⟨(by simp only [List.length_append, List.length_cons, List.length_nil]; omega), by simp only; omega, ?_, ?_⟩, ?_⟩
              | refine ⟨(1 + 1, acc ++ [u]), by simp only; omega, ⟨(by simp only [List.length_append, List.length_cons, List.length_nil]; omega), by simp only; omega, ?_, ?_⟩, ?_⟩
            · intro v hv
              rcases List.mem_append.1 hv with hv | hv
              · exact h3 v hv
              · simp only [List.mem_cons, List.not_mem_nil, or_false] at hv; subst hv; exact hu
            · simp only
              rw [hd, h4]
              cases infL us rest <;> simp
            · refine Wk.keepE 3 1 ?_ ?_ ?_ ?_
              · simp [u0_snoc, u1_snoc, h1]
              · simp
              · simp [AObj.under, AV.under]
              · simp only [List.map_cons, List.map_nil, AV.low, Fgt, true_or, or_true, and_true, true_and]
                simp
        · have hi2' : ¬ (i : Int) < 2 := by omega
          (have ww1 := hlt; have ww2 := hk; have ww3 := @encE_eq; have ww4 := hi2'; have cc1 := fun z1 => hih z1; refine wk ?_; clear ww1 ww2 ww3 ww4 cc1; (repeat' first | exact True.intro | refine Lf.mk ?_ ?_); all_goals intro hP)
          refine ⟨(i + 1, acc ++ [u]), by simp only; omega, ⟨by simp [h1], by simp only; omega, ?_, ?_⟩, ?_⟩
          · intro v hv
            rcases List.mem_append.1 hv with hv | hv
            · exact h3 v hv
            · simp only [List.mem_cons, List.not_mem_nil, or_false] at hv; subst hv; exact hu
          · simp only
            rw [hd, h4]
            cases infL us rest <;> simp
          · refine Wk.keepE 3 1 ?_ ?_ ?_ ?_
            · have n0 : ¬ i = 0 := by omega
              have n1 : ¬ i = 1 := by omega
              simp [u0_snoc, u1_snoc, h1, n0, n1]
            · simp
            · simp [AObj.under, AV.under]
            · simp only [List.map_cons, List.map_nil, AV.low, Fgt, true_or, or_true, and_true, true_and]
              simp [wrap_of (n := (i : Int) + 1) (by omega) (by omega)]
def varsB (l : List Vr) : Bool := match ksL l with
  | some _ => decide ((l.length : Int) ≤ 12)
  | none => false
theorem RVars_run (l : List Vr) (hl : l.length ≤ 1100000) (H0 : List AObj) : ARun Tryz.prog 79 [.rs 5 (l.map encV)] H0 (.ret (.b (varsB l)) H0) := by
  (refine ARun.intro Tryz.func79 rfl Tryz.call79 Tryz.ntmps79 Tryz.results79 ?_; simp only [List.length_cons, List.length_nil, List.length_map, Nat.reduceAdd, Nat.reduceSub, List.replicate_succ, List.replicate_zero, List.cons_append, List.nil_append])
  (refine wk ?_; (repeat' first | exact True.intro | refine Lf.mk ?_ ?_); all_goals intro hP)
  refine awp_loop_ind (σ := Nat) (fun s => l.length - s) (fun s => s ≤ l.length ∧ (ksL l).isSome = (ksL (l.drop s)).isSome)
    (fun s => (.rs 5 (l.map encV) :: .any :: .any :: .i s :: .any :: .any :: .any :: .any :: .any :: .any :: .any :: .any :: .any :: .any :: .any :: .any :: .any :: .any :: .any :: .any :: .any :: .any :: .any :: .any :: .any :: .any :: []))
    (fun s => H0) 0 ⟨Nat.zero_le _, by simp⟩ (by (refine fgtX ?_; try exact True.intro)) ?_
  rintro i ⟨h1, h4⟩
  cases hr : l.drop i with
  | nil =>
    have hlt := drop_nil hr
    rw [hr] at h4
    simp only [ksL, Option.isSome_some] at h4
    (have ww1 := hlt; refine wk ?_; clear ww1; (repeat' first | exact True.intro | refine Lf.mk ?_ ?_); all_goals intro hP)
    (refine resX ?_; try exact True.intro)
    unfold varsB
    cases hks : ksL l with
    | none => rw [hks] at h4; simp at h4
    | some us => simp
  | cons k rest =>
    obtain ⟨hk, hlt, hd, hm⟩ := drop_cons hr
    rw [hr] at h4
    cases hik : ofK k.unit with
    | none =>
      simp only [ksL, hik] at h4
      (have ww1 := hlt; have ww2 := hk; have ww3 := @encV_eq; have ww4 := @ofA.eq_1; have ww5 := hik; have cc1 := fun z1 z2 => ROf_run z1 z2; refine wk ?_; clear ww1 ww2 ww3 ww4 ww5 cc1; (repeat' first | exact True.intro | refine Lf.mk ?_ ?_); all_goals intro hP)
      (refine resX ?_; try exact True.intro)
      unfold varsB
      cases hks : ksL l with
      | none => simp
      | some us => rw [hks] at h4; simp at h4
    | some u =>
      simp only [ksL, hik] at h4
      (have ww1 := hlt; have ww2 := hk; have ww3 := @encV_eq; have ww4 := @ofA.eq_1; have ww5 := hik; have cc1 := fun z1 z2 => ROf_run z1 z2; refine wk ?_; clear ww1 ww2 ww3 ww4 ww5 cc1; (repeat' first | exact True.intro | refine Lf.mk ?_ ?_); all_goals intro hP)
      refine ⟨i + 1, by omega, ⟨by omega, ?_⟩, ?_⟩
      · rw [hd, h4]; cases ksL rest <;> rfl
      · (refine dropX ?_; try exact True.intro)
        simp [wrap_of (n := (i : Int) + 1) (by omega) (by omega)]
end Go.Proofs.YtpfjlifneibhfaaGreat.Y
namespace Go.Proofs.YtpfjlifneibhfaaGreat.AL
mutual
def mnS : St → Int → Int → Int
  | .mk k _ _ _ _ t e, b, n => if k = 2 then (n + 1 + mnL t (b - (n + 1)) 0) + mnL e (b - (n + 1 + mnL t (b - (n + 1)) 0)) 0 else n + 1
def mnL : List St → Int → Int → Int
  | [], _, n => n
  | s :: ss, b, n => if n ≤ b then mnL ss b (mnS s b n) else n
end
theorem mnS_eq (s : St) (b n : Int) : mnS s b n = if s.kind = 2 then (n + 1 + mnL s.thn (b - (n + 1)) 0) + mnL s.els (b - (n + 1 + mnL s.thn (b - (n + 1)) 0)) 0 else n + 1 := by cases s; rw [mnS]; rfl
theorem mn_key : ∀ s : St, ∀ b n : Int, n ≤ b → (n ≤ mnS s b n ∧ mnS s b n ≤ n + many s) ∧ (n + many s ≤ b → mnS s b n = n + many s) ∧ (b < n + many s → b < mnS s b n) := by
  have hl : ∀ l : List St, (∀ k ∈ l, ∀ b n : Int, n ≤ b → (n ≤ mnS k b n ∧ mnS k b n ≤ n + many k) ∧ (n + many k ≤ b → mnS k b n = n + many k) ∧ (b < n + many k → b < mnS k b n)) →
      ∀ b n : Int, (n ≤ mnL l b n ∧ mnL l b n ≤ n + manyL l) ∧ (n + manyL l ≤ b → mnL l b n = n + manyL l) ∧ (b < n + manyL l → b < mnL l b n) := by
    intro l
    induction l with
    | nil => intro _ b n; simp only [mnL, manyL]; omega
    | cons x xs ih =>
      intro h b n
      simp only [mnL, manyL]
      have hx : 1 ≤ many x := by rw [many_eq]; omega
      split
      · rename_i hnb
        have h1 := h x (by simp) b n hnb
        have h2 := ih (fun k hk => h k (by simp [hk])) b (mnS x b n)
        omega
      · omega
  intro s
  induction s using St.ind with
  | h s ih1 ih2 =>
    intro b n hnb
    rw [mnS_eq, many_eq]
    split
    · have h1 := hl s.thn ih1 (b - (n + 1)) 0
      have h2 := hl s.els ih2 (b - (n + 1 + mnL s.thn (b - (n + 1)) 0)) 0
      omega
    · omega
theorem mnL_key (l : List St) (b n : Int) : (n ≤ mnL l b n ∧ mnL l b n ≤ n + manyL l) ∧ (n + manyL l ≤ b → mnL l b n = n + manyL l) ∧ (b < n + manyL l → b < mnL l b n) := by
  induction l generalizing n with
  | nil => simp only [mnL, manyL]; omega
  | cons x xs ih =>
    simp only [mnL, manyL]
    have hx : 1 ≤ many x := by rw [many_eq]; omega
    split
    · rename_i hnb
      have h1 := mn_key x b n hnb
      have h2 := ih (mnS x b n)
      omega
    · omega
theorem mnL_gt (l : List St) (b : Int) : b < mnL l b 0 ↔ b < manyL l := by
  have := mnL_key l b 0
  omega
theorem mnS_bd (s : St) (b n : Int) (h : n ≤ b) : n ≤ mnS s b n ∧ mnS s b n ≤ n + many s := (mn_key s b n h).1
end Go.Proofs.YtpfjlifneibhfaaGreat.AL
namespace Go.Proofs.YtpfjlifneibhfaaGreat.Y
open Go.Proofs.YtpfjlifneibhfaaGreat.AL Go.Proofs Go
attribute [local irreducible] AWP AWL AWG AWR AWE AWX AWO AWSeq AWSG AWSR AWSO AWSE AWSF GoodP OGW OGR OGE OGX PGW PGR PGE Wk AWLoop AWPD AWLD
theorem RMany_run : ∀ (N : Nat) (l : List St), manyL l ≤ N → manyL l ≤ 1100000 → ∀ (b : Int) (H0 : List AObj), -1100000 ≤ b → b ≤ 1100000 →
    ARun Tryz.prog 95 [.rs 13 (l.map encS), .i b] H0 (.ret (.i (mnL l b 0)) H0) := by
  intro N
  induction N with
  | zero =>
    intro l hN _ b H0 hb1 hb2
    have hl : l = [] := by have := len_manyL l; exact List.eq_nil_of_length_eq_zero (by omega)
    subst hl
    (refine ARun.intro Tryz.func95 rfl Tryz.call95 Tryz.ntmps95 Tryz.results95 ?_; simp only [List.length_cons, List.length_nil, List.length_map, Nat.reduceAdd, Nat.reduceSub, List.replicate_succ, List.replicate_zero, List.cons_append, List.nil_append])
    (refine wk ?_; (repeat' first | exact True.intro | refine Lf.mk ?_ ?_); all_goals intro hP)
    refine awp_loop 1 ?_
    unfold AWLoop
    (refine wk ?_; (repeat' first | exact True.intro | refine Lf.mk ?_ ?_); all_goals intro hP)
    (refine resX ?_; try exact True.intro)
    all_goals simp [mnL]
  | succ N ihN =>
    intro l hN hM b H0 hb1 hb2
    (refine ARun.intro Tryz.func95 rfl Tryz.call95 Tryz.ntmps95 Tryz.results95 ?_; simp only [List.length_cons, List.length_nil, List.length_map, Nat.reduceAdd, Nat.reduceSub, List.replicate_succ, List.replicate_zero, List.cons_append, List.nil_append])
    (refine wk ?_; (repeat' first | exact True.intro | refine Lf.mk ?_ ?_); all_goals intro hP)
    refine awp_loop_ind (σ := Nat × Int) (fun s => l.length - s.1) (fun s => 0 ≤ s.2 ∧ s.2 ≤ 1100000 ∧ mnL (l.drop s.1) b s.2 = mnL l b 0)
      (fun s => (.rs 13 (l.map encS) :: .i b :: .any :: .any :: .any :: .i s.2 :: .i s.1 :: .any :: .any :: .any :: .any :: .any :: .any :: .any :: .any :: .any :: .any :: .any :: .any :: .any :: .any :: .any :: .any :: .any :: .any :: .any :: .any :: .any :: .any :: .any :: .any :: .any :: .any :: .any :: .any :: .any :: .any :: .any :: .any :: .any :: .any :: .any :: .any :: .any :: .any :: .any :: .any :: .any :: .any :: []))
      (fun s => H0) (0, 0) ⟨by simp, by simp, by simp⟩ (by (refine fgtX ?_; try exact True.intro)) ?_
    rintro ⟨i, n⟩ ⟨h2, h3, h4⟩
    simp only at h2 h3 h4 ⊢
    have hlen := len_manyL l
    cases hr : l.drop i with
    | nil =>
      have hlt := drop_nil hr
      rw [hr, mnL] at h4
      (have ww1 := hlt; refine wk ?_; clear ww1; (repeat' first | exact True.intro | refine Lf.mk ?_ ?_); all_goals intro hP)
      (refine resX ?_; try exact True.intro)
      rw [h4]
    | cons k rest =>
      obtain ⟨hk, hlt, hd, hm⟩ := drop_cons hr
      rw [hr, mnL] at h4
      have hz2 := manyL_mem hm
      by_cases hnb : n ≤ b
      · rw [if_pos hnb] at h4
        have hbd := mnS_bd k b n hnb
        have hbd2 := (mnL_key rest b (mnS k b n)).1
        have hbd3 := (mnL_key l b 0).1
        rw [mnS_eq] at h4 hbd hbd2
        by_cases hk2 : k.kind = 2
        · rw [if_pos hk2] at h4 hbd hbd2
          have hin : manyL k.thn + manyL k.els = manyL (innerL k) := by
            rw [innerL, if_pos hk2, manyL_append]
          have t1 := mnL_key k.thn (b - (n + 1)) 0
          have t2 := mnL_key k.els (b - (n + 1 + mnL k.thn (b - (n + 1)) 0)) 0
          repeat' (first | refine awp_seq ?_ | refine awp_block ?_ | refine awp_scope ?_ | ((first | refine awp_region_k fun Kn Kp hn hp => ?_ | refine oge_intro (by assumption) ?_ | (show AWE _ _ _ _ _ _ _ _ _; first | refine awe_intro (ihN k.thn (by omega) (by omega) _ _ (by omega) (by omega)) ?_ | refine awe_intro (ihN k.els (by omega) (by omega) _ _ (by omega) (by omega)) ?_) | (show AWSF _ _ _ _ _ _ _ _ _ _ _; first | refine awsf_intro (ihN k.thn (by omega) (by omega) _ _ (by omega) (by omega)) (fun hrun => ?_) | refine awsf_intro (ihN k.els (by omega) (by omega) _ _ (by omega) (by omega)) (fun hrun => ?_)) | (show OGE _ _ _ _ _ _ _; first | refine oge_intro (ihN k.thn (by omega) (by omega) _ _ (by omega) (by omega)) ?_ | refine oge_intro (ihN k.els (by omega) (by omega) _ _ (by omega) (by omega)) ?_) | (show AWSE _ _ _ _ _ _ _ _ _ _ _; first | refine awse_intro (ihN k.thn (by omega) (by omega) _ _ (by omega) (by omega)) (fun hrun => ?_) | refine awse_intro (ihN k.els (by omega) (by omega) _ _ (by omega) (by omega)) (fun hrun => ?_)) | (show PGE _ _ _ _ _; first | refine pge_intro (ihN k.thn (by omega) (by omega) _ _ (by omega) (by omega)) (fun tm' => ?_) | refine pge_intro (ihN k.els (by omega) (by omega) _ _ (by omega) (by omega)) (fun tm' => ?_))) <;> (simp only [go_sem, Nat.reduceAdd, Nat.reduceSub, Nat.reduceMul, Nat.reduceLeDiff, Nat.reduceLT, Nat.reduceEqDiff, Int.reduceToNat, Int.reduceAdd, Int.reduceMul, Int.reduceSub, Int.reduceLT, Int.reduceLE, Int.reduceEq, Int.reduceNeg, Int.reduceBEq, Int.reduceBNe, ↓reduceIte, reduceCtorEq, hlt, hnb, hk, encS_eq, hk2] <;> try simp (disch := omega) only [wrap_of])) | (refine hn _ _ ?_; clear hn hp Kn Kp) | (refine hp _ _ _ ?_; clear hn hp Kn Kp) | (refine awp_cond rfl (fun hb => ?_) (fun hb => ?_) <;> (try simp only [decide_eq_true_eq, decide_eq_false_iff_not, Bool.not_eq_true', Bool.not_eq_false', Bool.true_eq_false, Bool.false_eq_true, beq_iff_eq, bne_iff_ne, bne_eq_false_iff_eq, beq_eq_false_iff_ne, gt_iff_lt, ge_iff_le, Int.reduceEq, Int.reduceNe, Int.reduceLT, Int.reduceLE, ne_eq, not_true_eq_false, not_false_eq_true] at hb)) | ((first | refine awg_split (fun hb => ?_) (fun hb => ?_) | refine awsg_split (fun hb => ?_) (fun hb => ?_)) <;> have hb0 := hb <;> (try simp only [decide_eq_true_eq, decide_eq_false_iff_not, Bool.not_eq_true', Bool.not_eq_false', Bool.true_eq_false, Bool.false_eq_true, beq_iff_eq, bne_iff_ne, bne_eq_false_iff_eq, beq_eq_false_iff_ne, gt_iff_lt, ge_iff_le, Int.reduceEq, Int.reduceNe, Int.reduceLT, Int.reduceLE, ne_eq, not_true_eq_false, not_false_eq_true] at hb0) <;> (try simp only [beq_true, beq_false, Bool.not_eq_true', Bool.not_eq_false'] at hb) <;> (simp only [go_sem, Nat.reduceAdd, Nat.reduceSub, Nat.reduceMul, Nat.reduceLeDiff, Nat.reduceLT, Nat.reduceEqDiff, Int.reduceToNat, Int.reduceAdd, Int.reduceMul, Int.reduceSub, Int.reduceLT, Int.reduceLE, Int.reduceEq, Int.reduceNeg, Int.reduceBEq, Int.reduceBNe, ↓reduceIte, reduceCtorEq, hlt, hnb, hk, encS_eq, hk2, hb, hb0] <;> try simp (disch := omega) only [wrap_of])) | (refine And.intro ?_ ?_) | refine awp_skip ?_ | refine awp_ret ?_ | refine awp_exit ?_ | refine awp_label ?_ | refine awloop_step ?_ | fail)
          refine ⟨(i + 1, _), by simp only; omega, ⟨?_, ?_, by simp only; rw [hd]; exact h4⟩, ?_⟩
          · simp only; omega
          · simp only; omega
          · (refine dropX ?_; try exact True.intro)
            simp [wrap_of (n := (i : Int) + 1) (by omega) (by omega)]
        · rw [if_neg hk2] at h4 hbd hbd2
          have hk2' : (k.kind == 2) = false := by simpa using hk2
          (have ww1 := hlt; have ww2 := hnb; have ww3 := hk; have ww4 := @encS_eq; have ww5 := hk2'; refine wk ?_; clear ww1 ww2 ww3 ww4 ww5; (repeat' first | exact True.intro | refine Lf.mk ?_ ?_); all_goals intro hP)
          refine ⟨(i + 1, _), by simp only; omega, ⟨?_, ?_, by simp only; rw [hd]; exact h4⟩, ?_⟩
          · simp only; omega
          · simp only; omega
          · (refine dropX ?_; try exact True.intro)
            simp [wrap_of (n := (i : Int) + 1) (by omega) (by omega)]
      · rw [if_neg hnb] at h4
        (have ww1 := hlt; have ww2 := hnb; refine wk ?_; clear ww1 ww2; (repeat' first | exact True.intro | refine Lf.mk ?_ ?_); all_goals intro hP)
        (refine resX ?_; try exact True.intro)
        rw [h4]
theorem RShort_run : ∀ (N : Nat) (l : List St), totL l ≤ N → ∀ (H0 : List AObj), ARun Tryz.prog 96 [.rs 13 (l.map encS)] H0 (.ret (.b (smSL l)) H0) := by
  intro N
  induction N with
  | zero =>
    intro l hN H0
    have hl : l = [] := by have := len_totL l; exact List.eq_nil_of_length_eq_zero (by omega)
    subst hl
    (refine ARun.intro Tryz.func96 rfl Tryz.call96 Tryz.ntmps96 Tryz.results96 ?_; simp only [List.length_cons, List.length_nil, List.length_map, Nat.reduceAdd, Nat.reduceSub, List.replicate_succ, List.replicate_zero, List.cons_append, List.nil_append])
    (refine wk ?_; (repeat' first | exact True.intro | refine Lf.mk ?_ ?_); all_goals intro hP)
    refine awp_loop 1 ?_
    unfold AWLoop
    (refine wk ?_; (repeat' first | exact True.intro | refine Lf.mk ?_ ?_); all_goals intro hP)
    (refine resX ?_; try exact True.intro)
    all_goals simp [smSL]
  | succ N ihN =>
    intro l hN H0
    (refine ARun.intro Tryz.func96 rfl Tryz.call96 Tryz.ntmps96 Tryz.results96 ?_; simp only [List.length_cons, List.length_nil, List.length_map, Nat.reduceAdd, Nat.reduceSub, List.replicate_succ, List.replicate_zero, List.cons_append, List.nil_append])
    refine awp_len 0 rfl fun hlen => ?_
    rw [List.length_map] at hlen
    (refine wk ?_; (repeat' first | exact True.intro | refine Lf.mk ?_ ?_); all_goals intro hP)
    refine awp_loop_ind (σ := Nat) (fun s => l.length - s) (fun s => s ≤ l.length ∧ smSL l = smSL (l.drop s))
      (fun s => (.rs 13 (l.map encS) :: .any :: .any :: .i s :: .any :: .any :: .any :: .any :: .any :: .any :: .any :: .any :: .any :: .any :: .any :: .any :: .any :: .any :: .any :: .any :: .any :: .any :: .any :: .any :: .any :: .any :: .any :: .any :: .any :: .any :: .any :: .any :: .any :: .any :: .any :: .any :: .any :: .any :: .any :: .any :: .any :: .any :: []))
      (fun s => H0) 0 ⟨Nat.zero_le _, by simp⟩ (by (refine fgtX ?_; try exact True.intro)) ?_
    rintro i ⟨h1, h4⟩
    cases hr : l.drop i with
    | nil =>
      have hlt := drop_nil hr
      rw [hr, smSL] at h4
      (have ww1 := hlt; refine wk ?_; clear ww1; (repeat' first | exact True.intro | refine Lf.mk ?_ ?_); all_goals intro hP)
      (refine resX ?_; try exact True.intro)
      rw [h4]
    | cons k rest =>
      obtain ⟨hk, hlt, hd, hm⟩ := drop_cons hr
      have hmm := totL_mem hm
      rw [tot_eq] at hmm
      have ht := fun H0 => ihN k.thn (by omega) H0
      have he := fun H0 => ihN k.els (by omega) H0
      have ka := fun H0 => Size_run k.a 60 H0 (by omega) (by omega)
      have kb := fun H0 => Size_run k.b 60 H0 (by omega) (by omega)
      have ga := size_gt k.a 60 (by omega)
      have gb := size_gt k.b 60 (by omega)
      have hks : smS k = (decide (nodes k.a ≤ 60) && (if k.kind = 2 then decide (nodes k.b ≤ 60) && (smSL k.thn && smSL k.els) else true)) := by cases k; rw [smS]; rfl
      rw [hr] at h4
      simp only [smSL] at h4
      rw [hks] at h4
      by_cases hA : 60 < size k.a 60
      · have : ¬ nodes k.a ≤ 60 := by have := ga.1 hA; omega
        (have ww1 := hlt; have ww2 := hk; have ww3 := @encS_eq; have ww4 := hA; have cc1 := fun z1 => ka z1; refine wk ?_; clear ww1 ww2 ww3 ww4 cc1; (repeat' first | exact True.intro | refine Lf.mk ?_ ?_); all_goals intro hP)
        (refine resX ?_; try exact True.intro)
        rw [h4]; simp [this]
      · have hA' : nodes k.a ≤ 60 := by have := fun h => hA (ga.2 h); omega
        by_cases hk2 : k.kind = 2
        · by_cases hB : 60 < size k.b 60
          · have : ¬ nodes k.b ≤ 60 := by have := gb.1 hB; omega
            (have ww1 := hlt; have ww2 := hk; have ww3 := @encS_eq; have ww4 := hA; have ww5 := hk2; have ww6 := hB; have cc1 := fun z1 => ka z1; have cc2 := fun z1 => kb z1; have cc3 := fun z1 => ht z1; have cc4 := fun z1 => he z1; refine wk ?_; clear ww1 ww2 ww3 ww4 ww5 ww6 cc1 cc2 cc3 cc4; (repeat' first | exact True.intro | refine Lf.mk ?_ ?_); all_goals intro hP)
            (refine resX ?_; try exact True.intro)
            rw [h4]; simp [this, hk2]
          · have hB' : nodes k.b ≤ 60 := by have := fun h => hB (gb.2 h); omega
            cases hT : smSL k.thn with
            | false =>
              simp only [hT] at ht
              (have ww1 := hlt; have ww2 := hk; have ww3 := @encS_eq; have ww4 := hA; have ww5 := hk2; have ww6 := hB; have cc1 := fun z1 => ka z1; have cc2 := fun z1 => kb z1; have cc3 := fun z1 => ht z1; have cc4 := fun z1 => he z1; refine wk ?_; clear ww1 ww2 ww3 ww4 ww5 ww6 cc1 cc2 cc3 cc4; (repeat' first | exact True.intro | refine Lf.mk ?_ ?_); all_goals intro hP)
              (refine resX ?_; try exact True.intro)
              rw [h4]; simp [hT, hk2]
            | true =>
              simp only [hT] at ht
              cases hE : smSL k.els with
              | false =>
                simp only [hE] at he
                (have ww1 := hlt; have ww2 := hk; have ww3 := @encS_eq; have ww4 := hA; have ww5 := hk2; have ww6 := hB; have cc1 := fun z1 => ka z1; have cc2 := fun z1 => kb z1; have cc3 := fun z1 => ht z1; have cc4 := fun z1 => he z1; refine wk ?_; clear ww1 ww2 ww3 ww4 ww5 ww6 cc1 cc2 cc3 cc4; (repeat' first | exact True.intro | refine Lf.mk ?_ ?_); all_goals intro hP)
                (refine resX ?_; try exact True.intro)
                rw [h4]; simp [hT, hE, hk2]
              | true =>
                simp only [hE] at he
                (have ww1 := hlt; have ww2 := hk; have ww3 := @encS_eq; have ww4 := hA; have ww5 := hk2; have ww6 := hB; have cc1 := fun z1 => ka z1; have cc2 := fun z1 => kb z1; have cc3 := fun z1 => ht z1; have cc4 := fun z1 => he z1; refine wk ?_; clear ww1 ww2 ww3 ww4 ww5 ww6 cc1 cc2 cc3 cc4; (repeat' first | exact True.intro | refine Lf.mk ?_ ?_); all_goals intro hP)
                refine ⟨i + 1, by omega, ⟨by omega, ?_⟩, ?_⟩
                · rw [h4, hd]; simp [hA', hB', hT, hE]
                · (refine dropX ?_; try exact True.intro)
                  simp [wrap_of (n := (i : Int) + 1) (by omega) (by omega)]
        · have hk2' : (k.kind == 2) = false := by simpa using hk2
          (have ww1 := hlt; have ww2 := hk; have ww3 := @encS_eq; have ww4 := hA; have ww5 := hk2'; have cc1 := fun z1 => ka z1; refine wk ?_; clear ww1 ww2 ww3 ww4 ww5 cc1; (repeat' first | exact True.intro | refine Lf.mk ?_ ?_); all_goals intro hP)
          refine ⟨i + 1, by omega, ⟨by omega, ?_⟩, ?_⟩
          · rw [h4, hd]; simp [hA', hk2]
          · (refine dropX ?_; try exact True.intro)
            simp [wrap_of (n := (i : Int) + 1) (by omega) (by omega)]
def fine1 (p : Prg) : Prop := manyL p.on0 ≤ 1100000 ∧ manyL p.on1 ≤ 1100000 ∧ manyL p.on2 ≤ 1100000 ∧ manyL p.on3 ≤ 1100000 ∧ manyL p.on4 ≤ 1100000 ∧ p.vars.length ≤ 1100000
theorem Rstmt_run (l : List Vr) (us : List Un) (hks : ksL l = some us) (s : St)
    (hT : ∀ H0, ARun Tryz.prog 97 [.rs 5 (l.map encV), .rs 13 (s.thn.map encS)] H0 (.ret (.i (stSL us s.thn)) H0))
    (hE : ∀ H0, ARun Tryz.prog 97 [.rs 5 (l.map encV), .rs 13 (s.els.map encS)] H0 (.ret (.i (stSL us s.els)) H0))
    (H0 : List AObj) : ARun Tryz.prog 109 [.rs 5 (l.map encV), .ag (cS s)] H0 (.ret (.i (stS us s)) H0) := by
  have hg := ksL_get hks
  have ka := fun H0 => Rexpr_run l us hks s.a H0
  have kb := fun H0 => Rexpr_run l us hks s.b H0
  rw [stS_eq]
  by_cases h1 : s.kind = 1
  · simp only [h1, if_true]
    by_cases hv0 : 0 ≤ s.var
    · simp only [hv0, if_true]
      have hn0 : ¬ s.var < 0 := by omega
      cases hv : l[s.var.toNat]? with
      | none =>
        have hu := hg s.var.toNat
        rw [hv] at hu
        simp only [Option.bind_none] at hu
        rw [hu]
        have hlv : (l.length : Int) ≤ s.var := by rw [List.getElem?_eq_none_iff] at hv; omega
        (refine ARun.intro Tryz.func109 rfl Tryz.call109 Tryz.ntmps109 Tryz.results109 ?_; simp only [List.length_cons, List.length_nil, List.length_map, Nat.reduceAdd, Nat.reduceSub, List.replicate_succ, List.replicate_zero, List.cons_append, List.nil_append])
        (have ww1 := h1; have ww2 := hn0; have ww3 := hlv; refine wk ?_; clear ww1 ww2 ww3; (repeat' first | exact True.intro | refine Lf.mk ?_ ?_); all_goals intro hP)
        (refine resX ?_; try exact True.intro)
      | some v =>
        have hu := hg s.var.toNat
        rw [hv] at hu
        simp only [Option.bind_some] at hu
        have hlt := (List.getElem?_eq_some_iff.1 hv).1
        have hlv : ¬ (l.length : Int) ≤ s.var := by omega
        have hlv2 : s.var < (l.length : Int) := by omega
        have hsome : ∃ w, ofK v.unit = some w := by
          have h2 : s.var.toNat < us.length := by rw [ksL_len hks]; omega
          rw [List.getElem?_eq_getElem h2] at hu
          exact ⟨_, hu.symm⟩
        obtain ⟨w, hw⟩ := hsome
        rw [hw] at hu
        simp only [hu]
        cases hi : inf us s.a with
        | error x =>
          have hx := inf_err us s.a x hi
          have hx0 : (x != 0) = true := by simp; omega
          simp only [hi, ansU] at ka
          (refine ARun.intro Tryz.func109 rfl Tryz.call109 Tryz.ntmps109 Tryz.results109 ?_; simp only [List.length_cons, List.length_nil, List.length_map, Nat.reduceAdd, Nat.reduceSub, List.replicate_succ, List.replicate_zero, List.cons_append, List.nil_append])
          (have ww1 := h1; have ww2 := hn0; have ww3 := hlv; have ww4 := hx0; have cc1 := fun z1 => ka z1; refine wk ?_; clear ww1 ww2 ww3 ww4 cc1; (repeat' first | exact True.intro | refine Lf.mk ?_ ?_); all_goals intro hP)
          (refine resX ?_; try exact True.intro)
        | ok u =>
          simp only [hi, ansU] at ka
          have hE := eqU u w
          by_cases huw : u = w
          · rw [decide_eq_true huw] at hE
            (refine ARun.intro Tryz.func109 rfl Tryz.call109 Tryz.ntmps109 Tryz.results109 ?_; simp only [List.length_cons, List.length_nil, List.length_map, Nat.reduceAdd, Nat.reduceSub, List.replicate_succ, List.replicate_zero, List.cons_append, List.nil_append])
            (have ww1 := h1; have ww2 := hn0; have ww3 := hlv; have ww4 := hlv2; have ww5 := hv0; have ww6 := hv; have ww7 := @encV_eq; have ww8 := @ofA.eq_1; have ww9 := hw; have ww10 := @eqs34; have ww11 := @eqg34; have ww12 := hE; have cc1 := fun z1 => ka z1; have cc2 := fun z1 z2 => ROf_run z1 z2; refine wk ?_; clear ww1 ww2 ww3 ww4 ww5 ww6 ww7 ww8 ww9 ww10 ww11 ww12 cc1 cc2; (repeat' first | exact True.intro | refine Lf.mk ?_ ?_); all_goals intro hP)
            (refine resX ?_; try exact True.intro)
            all_goals simp [huw]
          · rw [decide_eq_false huw] at hE
            (refine ARun.intro Tryz.func109 rfl Tryz.call109 Tryz.ntmps109 Tryz.results109 ?_; simp only [List.length_cons, List.length_nil, List.length_map, Nat.reduceAdd, Nat.reduceSub, List.replicate_succ, List.replicate_zero, List.cons_append, List.nil_append])
            (have ww1 := h1; have ww2 := hn0; have ww3 := hlv; have ww4 := hlv2; have ww5 := hv0; have ww6 := hv; have ww7 := @encV_eq; have ww8 := @ofA.eq_1; have ww9 := hw; have ww10 := @eqs34; have ww11 := @eqg34; have ww12 := hE; have cc1 := fun z1 => ka z1; have cc2 := fun z1 z2 => ROf_run z1 z2; refine wk ?_; clear ww1 ww2 ww3 ww4 ww5 ww6 ww7 ww8 ww9 ww10 ww11 ww12 cc1 cc2; (repeat' first | exact True.intro | refine Lf.mk ?_ ?_); all_goals intro hP)
            (refine resX ?_; try exact True.intro)
            all_goals simp [huw]
    · have hn0 : s.var < 0 := by omega
      simp only [hv0, if_false]
      (refine ARun.intro Tryz.func109 rfl Tryz.call109 Tryz.ntmps109 Tryz.results109 ?_; simp only [List.length_cons, List.length_nil, List.length_map, Nat.reduceAdd, Nat.reduceSub, List.replicate_succ, List.replicate_zero, List.cons_append, List.nil_append])
      (have ww1 := h1; have ww2 := hn0; refine wk ?_; clear ww1 ww2; (repeat' first | exact True.intro | refine Lf.mk ?_ ?_); all_goals intro hP)
      (refine resX ?_; try exact True.intro)
  · have h1' : (s.kind == 1) = false := by simpa using h1
    simp only [h1, if_false]
    by_cases h2 : s.kind = 2
    · simp only [h2, if_true]
      by_cases hr : 1 ≤ s.rel ∧ s.rel ≤ 6
      · have r1 : ¬ s.rel < 1 := by omega
        have r2 : ¬ 6 < s.rel := by omega
        simp only [hr, and_self, if_true]
        cases hi : inf us s.a with
        | error x =>
          have hx := inf_err us s.a x hi
          have hx0 : (x != 0) = true := by simp; omega
          simp only [hi, ansU] at ka
          (refine ARun.intro Tryz.func109 rfl Tryz.call109 Tryz.ntmps109 Tryz.results109 ?_; simp only [List.length_cons, List.length_nil, List.length_map, Nat.reduceAdd, Nat.reduceSub, List.replicate_succ, List.replicate_zero, List.cons_append, List.nil_append])
          (have ww1 := h2; have ww2 := r1; have ww3 := r2; have ww4 := hx0; have cc1 := fun z1 => ka z1; refine wk ?_; clear ww1 ww2 ww3 ww4 cc1; (repeat' first | exact True.intro | refine Lf.mk ?_ ?_); all_goals intro hP)
          (refine resX ?_; try exact True.intro)
        | ok u =>
          simp only [hi, ansU] at ka
          cases hj : inf us s.b with
          | error x =>
            have hx := inf_err us s.b x hj
            have hx0 : (x != 0) = true := by simp; omega
            simp only [hj, ansU] at kb
            (refine ARun.intro Tryz.func109 rfl Tryz.call109 Tryz.ntmps109 Tryz.results109 ?_; simp only [List.length_cons, List.length_nil, List.length_map, Nat.reduceAdd, Nat.reduceSub, List.replicate_succ, List.replicate_zero, List.cons_append, List.nil_append])
            (have ww1 := h2; have ww2 := r1; have ww3 := r2; have ww4 := hx0; have cc1 := fun z1 => ka z1; have cc2 := fun z1 => kb z1; refine wk ?_; clear ww1 ww2 ww3 ww4 cc1 cc2; (repeat' first | exact True.intro | refine Lf.mk ?_ ?_); all_goals intro hP)
            (refine resX ?_; try exact True.intro)
          | ok w =>
            simp only [hj, ansU] at kb
            have hEq := eqU u w
            by_cases huw : u = w
            · rw [decide_eq_true huw] at hEq
              simp only [huw, if_true]
              by_cases hS : stSL us s.thn = 0
              · have hS' : (stSL us s.thn != 0) = false := by simp [hS]
                simp only [hS, if_true]
                (refine ARun.intro Tryz.func109 rfl Tryz.call109 Tryz.ntmps109 Tryz.results109 ?_; simp only [List.length_cons, List.length_nil, List.length_map, Nat.reduceAdd, Nat.reduceSub, List.replicate_succ, List.replicate_zero, List.cons_append, List.nil_append])
                (have ww1 := h2; have ww2 := r1; have ww3 := r2; have ww4 := @eqs34; have ww5 := @eqg34; have ww6 := hEq; have ww7 := hS'; have cc1 := fun z1 => ka z1; have cc2 := fun z1 => kb z1; have cc3 := fun z1 => hT z1; have cc4 := fun z1 => hE z1; refine wk ?_; clear ww1 ww2 ww3 ww4 ww5 ww6 ww7 cc1 cc2 cc3 cc4; (repeat' first | exact True.intro | refine Lf.mk ?_ ?_); all_goals intro hP)
                (refine resX ?_; try exact True.intro)
              · have hS' : (stSL us s.thn != 0) = true := by simpa using hS
                simp only [hS, if_false]
                (refine ARun.intro Tryz.func109 rfl Tryz.call109 Tryz.ntmps109 Tryz.results109 ?_; simp only [List.length_cons, List.length_nil, List.length_map, Nat.reduceAdd, Nat.reduceSub, List.replicate_succ, List.replicate_zero, List.cons_append, List.nil_append])
                (have ww1 := h2; have ww2 := r1; have ww3 := r2; have ww4 := @eqs34; have ww5 := @eqg34; have ww6 := hEq; have ww7 := hS'; have cc1 := fun z1 => ka z1; have cc2 := fun z1 => kb z1; have cc3 := fun z1 => hT z1; have cc4 := fun z1 => hE z1; refine wk ?_; clear ww1 ww2 ww3 ww4 ww5 ww6 ww7 cc1 cc2 cc3 cc4; (repeat' first | exact True.intro | refine Lf.mk ?_ ?_); all_goals intro hP)
                (refine resX ?_; try exact True.intro)
            · rw [decide_eq_false huw] at hEq
              simp only [huw, if_false]
              (refine ARun.intro Tryz.func109 rfl Tryz.call109 Tryz.ntmps109 Tryz.results109 ?_; simp only [List.length_cons, List.length_nil, List.length_map, Nat.reduceAdd, Nat.reduceSub, List.replicate_succ, List.replicate_zero, List.cons_append, List.nil_append])
              (have ww1 := h2; have ww2 := r1; have ww3 := r2; have ww4 := @eqs34; have ww5 := @eqg34; have ww6 := hEq; have cc1 := fun z1 => ka z1; have cc2 := fun z1 => kb z1; refine wk ?_; clear ww1 ww2 ww3 ww4 ww5 ww6 cc1 cc2; (repeat' first | exact True.intro | refine Lf.mk ?_ ?_); all_goals intro hP)
              (refine resX ?_; try exact True.intro)
      · simp only [hr, if_false]
        (refine ARun.intro Tryz.func109 rfl Tryz.call109 Tryz.ntmps109 Tryz.results109 ?_; simp only [List.length_cons, List.length_nil, List.length_map, Nat.reduceAdd, Nat.reduceSub, List.replicate_succ, List.replicate_zero, List.cons_append, List.nil_append])
        repeat' (first | refine awp_seq ?_ | refine awp_block ?_ | refine awp_scope ?_ | ((first | refine awp_region_k fun Kn Kp hn hp => ?_ | refine oge_intro (by assumption) ?_) <;> (simp only [go_sem, Nat.reduceAdd, Nat.reduceSub, Nat.reduceMul, Nat.reduceLeDiff, Nat.reduceLT, Nat.reduceEqDiff, Int.reduceToNat, Int.reduceAdd, Int.reduceMul, Int.reduceSub, Int.reduceLT, Int.reduceLE, Int.reduceEq, Int.reduceNeg, Int.reduceBEq, Int.reduceBNe, ↓reduceIte, reduceCtorEq, h2] <;> try simp (disch := omega) only [wrap_of])) | (refine hn _ _ ?_; clear hn hp Kn Kp) | (refine hp _ _ _ ?_; clear hn hp Kn Kp) | (refine awp_cond rfl (fun hb => ?_) (fun hb => ?_) <;> (try simp only [decide_eq_true_eq, decide_eq_false_iff_not, Bool.not_eq_true', Bool.not_eq_false', Bool.true_eq_false, Bool.false_eq_true, beq_iff_eq, bne_iff_ne, bne_eq_false_iff_eq, beq_eq_false_iff_ne, gt_iff_lt, ge_iff_le, Int.reduceEq, Int.reduceNe, Int.reduceLT, Int.reduceLE, ne_eq, not_true_eq_false, not_false_eq_true] at hb)) | ((first | refine awg_split (fun hb => ?_) (fun hb => ?_) | refine awsg_split (fun hb => ?_) (fun hb => ?_)) <;> have hb0 := hb <;> (try simp only [decide_eq_true_eq, decide_eq_false_iff_not, Bool.not_eq_true', Bool.not_eq_false', Bool.true_eq_false, Bool.false_eq_true, beq_iff_eq, bne_iff_ne, bne_eq_false_iff_eq, beq_eq_false_iff_ne, gt_iff_lt, ge_iff_le, Int.reduceEq, Int.reduceNe, Int.reduceLT, Int.reduceLE, ne_eq, not_true_eq_false, not_false_eq_true] at hb0) <;> (try simp only [beq_true, beq_false, Bool.not_eq_true', Bool.not_eq_false'] at hb) <;> (simp only [go_sem, Nat.reduceAdd, Nat.reduceSub, Nat.reduceMul, Nat.reduceLeDiff, Nat.reduceLT, Nat.reduceEqDiff, Int.reduceToNat, Int.reduceAdd, Int.reduceMul, Int.reduceSub, Int.reduceLT, Int.reduceLE, Int.reduceEq, Int.reduceNeg, Int.reduceBEq, Int.reduceBNe, ↓reduceIte, reduceCtorEq, h2, hb, hb0] <;> try simp (disch := omega) only [wrap_of])) | (refine And.intro ?_ ?_) | refine awp_skip ?_ | refine awp_ret ?_ | refine awp_exit ?_ | refine awp_label ?_ | refine awloop_step ?_ | fail)
        all_goals first
          | omega
          | ((refine resX ?_; try exact True.intro))
    · have h2' : (s.kind == 2) = false := by simpa using h2
      simp only [h2, if_false]
      (refine ARun.intro Tryz.func109 rfl Tryz.call109 Tryz.ntmps109 Tryz.results109 ?_; simp only [List.length_cons, List.length_nil, List.length_map, Nat.reduceAdd, Nat.reduceSub, List.replicate_succ, List.replicate_zero, List.cons_append, List.nil_append])
      (have ww1 := h1'; have ww2 := h2'; refine wk ?_; clear ww1 ww2; (repeat' first | exact True.intro | refine Lf.mk ?_ ?_); all_goals intro hP)
      (refine resX ?_; try exact True.intro)
theorem dr54_7_U26 : Drawn Tryz.prog 7 (regOps 7 ((Tryz.f54.body).getD .skip)) [6] [] [.win [0], .win [0], .win [0], .win [0], .win [0], .win [0], .eff 0, .win [1]] 1 [] := ⟨rfl, by as_aux_lemma => kernel_rfl⟩
theorem Rstmts_run (l : List Vr) (us : List Un) (hks : ksL l = some us) : ∀ (N : Nat) (t : List St), totL t ≤ N → ∀ (H0 : List AObj), ARun Tryz.prog 97 [.rs 5 (l.map encV), .rs 13 (t.map encS)] H0 (.ret (.i (stSL us t)) H0) := by
  intro N
  induction N with
  | zero =>
    intro t hN H0
    have hl : t = [] := by have := len_totL t; exact List.eq_nil_of_length_eq_zero (by omega)
    subst hl
    (refine ARun.intro Tryz.func97 rfl Tryz.call97 Tryz.ntmps97 Tryz.results97 ?_; simp only [List.length_cons, List.length_nil, List.length_map, Nat.reduceAdd, Nat.reduceSub, List.replicate_succ, List.replicate_zero, List.cons_append, List.nil_append])
    (refine wk ?_; (repeat' first | exact True.intro | refine Lf.mk ?_ ?_); all_goals intro hP)
    refine awp_loop 1 ?_
    unfold AWLoop
    (refine wk ?_; (repeat' first | exact True.intro | refine Lf.mk ?_ ?_); all_goals intro hP)
    (refine resX ?_; try exact True.intro)
    all_goals simp [stSL]
  | succ N ihN =>
    intro t hN H0
    (refine ARun.intro Tryz.func97 rfl Tryz.call97 Tryz.ntmps97 Tryz.results97 ?_; simp only [List.length_cons, List.length_nil, List.length_map, Nat.reduceAdd, Nat.reduceSub, List.replicate_succ, List.replicate_zero, List.cons_append, List.nil_append])
    refine awp_len 1 rfl fun hlen => ?_
    rw [List.length_map] at hlen
    (refine wk ?_; (repeat' first | exact True.intro | refine Lf.mk ?_ ?_); all_goals intro hP)
    refine awp_loop_ind (σ := Nat) (fun s => t.length - s) (fun s => s ≤ t.length ∧ stSL us t = stSL us (t.drop s))
      (fun s => (.rs 5 (l.map encV) :: .rs 13 (t.map encS) :: .any :: .any :: .any :: .i s :: .any :: .any :: .any :: .any :: .any :: .any :: .any :: .any :: .any :: .any :: .any :: .any :: .any :: .any :: .any :: .any :: []))
      (fun s => H0) 0 ⟨Nat.zero_le _, by simp⟩ (by (refine fgtX ?_; try exact True.intro)) ?_
    rintro i ⟨h1, h4⟩
    cases hr : t.drop i with
    | nil =>
      have hlt := drop_nil hr
      rw [hr, stSL] at h4
      (have ww1 := hlt; refine wk ?_; clear ww1; (repeat' first | exact True.intro | refine Lf.mk ?_ ?_); all_goals intro hP)
      (refine resX ?_; try exact True.intro)
      rw [h4]
    | cons k rest =>
      obtain ⟨hk, hlt, hd, hm⟩ := drop_cons hr
      have hmm := totL_mem hm
      rw [tot_eq] at hmm
      have hs := fun H0 => Rstmt_run l us hks k (fun H0 => ihN k.thn (by omega) H0) (fun H0 => ihN k.els (by omega) H0) H0
      rw [hr] at h4
      simp only [stSL] at h4
      by_cases h0 : stS us k = 0
      · have h0' : (stS us k != 0) = false := by simp [h0]
        rw [if_pos h0] at h4
        (have ww1 := hlt; have ww2 := hk; have ww3 := @encS_eq; have ww4 := h0'; have cc1 := fun z1 => hs z1; refine wk ?_; clear ww1 ww2 ww3 ww4 cc1; (repeat' first | exact True.intro | refine Lf.mk ?_ ?_); all_goals intro hP)
        refine ⟨i + 1, by omega, ⟨by omega, by rw [h4, hd]⟩, ?_⟩
        (refine dropX ?_; try exact True.intro)
        simp [wrap_of (n := (i : Int) + 1) (by omega) (by omega)]
      · have h0' : (stS us k != 0) = true := by simpa using h0
        rw [if_neg h0] at h4
        (have ww1 := hlt; have ww2 := hk; have ww3 := @encS_eq; have ww4 := h0'; have cc1 := fun z1 => hs z1; refine wk ?_; clear ww1 ww2 ww3 ww4 cc1; (repeat' first | exact True.intro | refine Lf.mk ?_ ?_); all_goals intro hP)
        (refine resX ?_; try exact True.intro)
        rw [h4]
theorem RHandler_run (l : List Vr) (us : List Un) (hks : ksL l = some us) (t : List St) (hM : manyL t ≤ 1100000) (H0 : List AObj) : ARun Tryz.prog 80 [.rs 5 (l.map encV), .rs 13 (t.map encS)] H0 (.ret (.i (handS us t)) H0) := by
  have hm := fun H0 => RMany_run _ t (Nat.le_refl _) hM 100 H0 (by omega) (by omega)
  have hg := mnL_gt t 100
  have hs := fun H0 => RShort_run _ t (Nat.le_refl _) H0
  have ht := fun H0 => Rstmts_run l us hks _ t (Nat.le_refl _) H0
  unfold handS
  by_cases h : 100 < mnL t 100 0
  · have : 100 < manyL t := by omega
    simp only [this, if_true]
    (refine ARun.intro Tryz.func80 rfl Tryz.call80 Tryz.ntmps80 Tryz.results80 ?_; simp only [List.length_cons, List.length_nil, List.length_map, Nat.reduceAdd, Nat.reduceSub, List.replicate_succ, List.replicate_zero, List.cons_append, List.nil_append])
    (have ww1 := h; have cc1 := fun z1 => hm z1; refine wk ?_; clear ww1 cc1; (repeat' first | exact True.intro | refine Lf.mk ?_ ?_); all_goals intro hP)
    (refine resX ?_; try exact True.intro)
  · have : ¬ 100 < manyL t := by omega
    simp only [this, if_false]
    cases hS : smSL t with
    | false =>
      simp only [hS] at hs
      (refine ARun.intro Tryz.func80 rfl Tryz.call80 Tryz.ntmps80 Tryz.results80 ?_; simp only [List.length_cons, List.length_nil, List.length_map, Nat.reduceAdd, Nat.reduceSub, List.replicate_succ, List.replicate_zero, List.cons_append, List.nil_append])
      (have ww1 := h; have cc1 := fun z1 => hm z1; have cc2 := fun z1 => hs z1; refine wk ?_; clear ww1 cc1 cc2; (repeat' first | exact True.intro | refine Lf.mk ?_ ?_); all_goals intro hP)
      (refine resX ?_; try exact True.intro)
    | true =>
      simp only [hS] at hs
      (refine ARun.intro Tryz.func80 rfl Tryz.call80 Tryz.ntmps80 Tryz.results80 ?_; simp only [List.length_cons, List.length_nil, List.length_map, Nat.reduceAdd, Nat.reduceSub, List.replicate_succ, List.replicate_zero, List.cons_append, List.nil_append])
      (have ww1 := h; have cc1 := fun z1 => hm z1; have cc2 := fun z1 => hs z1; have cc3 := fun z1 => ht z1; refine wk ?_; clear ww1 cc1 cc2 cc3; (repeat' first | exact True.intro | refine Lf.mk ?_ ?_); all_goals intro hP)
      (refine resX ?_; try exact True.intro)
theorem RCheck_run (p : Prg) (hp : fine1 p) (H0 : List AObj) : ARun Tryz.prog 54 [.ag (cP p)] H0 (.ret (ansC (checkS p)) H0) := by
  obtain ⟨q0, q1, q2, q3, q4, q5⟩ := hp
  have hv := fun H0 => RVars_run p.vars q5 H0
  unfold varsB at hv
  unfold checkS
  cases hks : ksL p.vars with
  | none =>
    simp only [hks] at hv
    (refine ARun.intro Tryz.func54 rfl Tryz.call54 Tryz.ntmps54 Tryz.results54 ?_; simp only [List.length_cons, List.length_nil, List.length_map, Nat.reduceAdd, Nat.reduceSub, List.replicate_succ, List.replicate_zero, List.cons_append, List.nil_append])
    (have rr1 := dr54_7_U26; have cc1 := fun z1 => hv z1; refine wk ?_; clear rr1 cc1; (repeat' first | exact True.intro | refine Lf.mk ?_ ?_); all_goals intro hP)
    (refine resX ?_; try exact True.intro)
    all_goals simp [ansC]
  | some us =>
    simp only [hks] at hv
    by_cases h12 : 12 < p.vars.length
    · have h12' : decide ((p.vars.length : Int) ≤ 12) = false := by simp; omega
      simp only [h12, if_true]
      (refine ARun.intro Tryz.func54 rfl Tryz.call54 Tryz.ntmps54 Tryz.results54 ?_; simp only [List.length_cons, List.length_nil, List.length_map, Nat.reduceAdd, Nat.reduceSub, List.replicate_succ, List.replicate_zero, List.cons_append, List.nil_append])
      (have rr1 := dr54_7_U26; have ww1 := h12'; have cc1 := fun z1 => hv z1; refine wk ?_; clear rr1 ww1 cc1; (repeat' first | exact True.intro | refine Lf.mk ?_ ?_); all_goals intro hP)
      (refine resX ?_; try exact True.intro)
      all_goals simp [ansC]
    · have h12' : decide ((p.vars.length : Int) ≤ 12) = true := by simp; omega
      simp only [h12, if_false]
      have c0 := fun H0 => RHandler_run p.vars us hks p.on0 q0 H0
      have c1 := fun H0 => RHandler_run p.vars us hks p.on1 q1 H0
      have c2 := fun H0 => RHandler_run p.vars us hks p.on2 q2 H0
      have c3 := fun H0 => RHandler_run p.vars us hks p.on3 q3 H0
      have c4 := fun H0 => RHandler_run p.vars us hks p.on4 q4 H0
      unfold evS
      (refine ARun.intro Tryz.func54 rfl Tryz.call54 Tryz.ntmps54 Tryz.results54 ?_; simp only [List.length_cons, List.length_nil, List.length_map, Nat.reduceAdd, Nat.reduceSub, List.replicate_succ, List.replicate_zero, List.cons_append, List.nil_append])
      (have rr1 := dr54_7_U26; have ww1 := h12'; have cc1 := fun z1 => hv z1; refine wk ?_; clear rr1 ww1 cc1; (repeat' first | exact True.intro | refine Lf.mk ?_ ?_); all_goals intro hP)
      refine awp_loop 6 ?_
      (have rr1 := dr54_7_U26; have cc1 := fun z1 => c0 z1; have cc2 := fun z1 => c1 z1; have cc3 := fun z1 => c2 z1; have cc4 := fun z1 => c3 z1; have cc5 := fun z1 => c4 z1; refine wk ?_; clear rr1 cc1 cc2 cc3 cc4 cc5; (repeat' first | exact True.intro | refine Lf.mk ?_ ?_); all_goals intro hP)
      all_goals
        (refine resX ?_; try exact True.intro)
        simp [ansC, *]
theorem hasUnit_run (l : List Vr) (k u : Int) (hl : l.length ≤ 2000000) (H0 : List AObj) :
    ARun Tryz.prog 50 [.rs 5 (l.map encV), .i k, .i u] H0 (.ret (.b (usesB l k u)) H0) := by
  by_cases hk : 0 ≤ k ∧ k < l.length
  · have hlt : k.toNat < l.length := by omega
    have hv := getEV hlt
    have hl' : (l.map encV)[k.toNat]? = some (cV (l.getD k.toNat dV)) := by rw [List.getElem?_map, hv]; rfl
    (refine ARun.intro Tryz.func50 rfl Tryz.call50 Tryz.ntmps50 Tryz.results50 ?_; simp only [List.length_cons, List.length_nil, List.length_map, Nat.reduceAdd, Nat.reduceSub, List.replicate_succ, List.replicate_zero, List.cons_append, List.nil_append])
    (have ww1 := hl'; refine wkO ?_; clear ww1; (repeat' first | exact True.intro | refine Lf.mk ?_ ?_); all_goals intro hP)
    all_goals ((refine resX ?_; try exact True.intro))
    all_goals (unfold usesB; rw [hv]; simp [hk])
  · (refine ARun.intro Tryz.func50 rfl Tryz.call50 Tryz.ntmps50 Tryz.results50 ?_; simp only [List.length_cons, List.length_nil, List.length_map, Nat.reduceAdd, Nat.reduceSub, List.replicate_succ, List.replicate_zero, List.cons_append, List.nil_append])
    (refine wkO ?_; (repeat' first | exact True.intro | refine Lf.mk ?_ ?_); all_goals intro hP)
    all_goals ((refine resX ?_; try exact True.intro))
    all_goals (unfold usesB; rw [decide_eq_false hk, Bool.false_and])
theorem zeroBool : aZero1 Tryz.prog 4 = some (.bool false) := by kernel_rfl
end Go.Proofs.YtpfjlifneibhfaaGreat.Y
