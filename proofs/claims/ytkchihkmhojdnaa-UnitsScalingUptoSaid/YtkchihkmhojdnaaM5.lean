/- Part 5 of the proofs of seat Ytkchihkmhojdnaa: what the texts behind it lean on (abstract memory, walks of functions, plain laws). -/
import Derived.Test.YtkchihkmhojdnaaM4
import Derived.Test.YtkchihkmhojdnaaRows

set_option maxHeartbeats 8000000
set_option maxRecDepth 20000
set_option linter.unusedVariables false
set_option linter.unusedSimpArgs false
namespace Go.Proofs.Ytkchihkmhojdnaa.Y
open Go.Proofs.Ytkchihkmhojdnaa.AL Go.Proofs Go

theorem Rstmts_run (l : List Vr) (us : List Un) (hks : ksL l = some us) : ∀ (N : Nat) (t : List St), totL t ≤ N → ∀ (H0 : List AObj), ARun Try.prog 51 [.rs 5 (l.map encV), .rs 13 (t.map encS)] H0 (.ret (.i (stSL us t)) H0) := by
  intro N
  induction N with
  | zero =>
    intro t hN H0
    have hl : t = [] := by have := len_totL t; exact List.eq_nil_of_length_eq_zero (by omega)
    subst hl
    (refine ARun.intro Try.func51 rfl Try.call51 Try.ntmps51 Try.results51 ?_; simp only [List.length_cons, List.length_nil, List.length_map, Nat.reduceAdd, Nat.reduceSub, List.replicate_succ, List.replicate_zero, List.cons_append, List.nil_append])
    repeat' (first | refine awp_seq ?_ | refine awp_block ?_ | ((first | refine awp_region_k fun Kn Kp hn hp => ?_ | refine oge_intro (by assumption) ?_) <;> (simp only [go_sem, Nat.reduceAdd, Nat.reduceSub, Nat.reduceMul, Nat.reduceLeDiff, Nat.reduceLT, Nat.reduceEqDiff, Int.reduceToNat, Int.reduceAdd, Int.reduceMul, Int.reduceSub, Int.reduceLT, Int.reduceLE, Int.reduceEq, Int.reduceNeg, Int.reduceBEq, Int.reduceBNe, ↓reduceIte, reduceCtorEq] <;> try simp (disch := omega) only [wrap_of])) | (refine hn _ _ ?_; clear hn hp Kn Kp) | (refine hp _ _ _ ?_; clear hn hp Kn Kp) | (refine awp_cond rfl (fun hb => ?_) (fun hb => ?_) <;> (try simp only [decide_eq_true_eq, decide_eq_false_iff_not, Bool.not_eq_true', Bool.not_eq_false', Bool.true_eq_false, Bool.false_eq_true, beq_iff_eq, bne_iff_ne, bne_eq_false_iff_eq, beq_eq_false_iff_ne, gt_iff_lt, ge_iff_le, Int.reduceEq, Int.reduceNe, Int.reduceLT, Int.reduceLE, ne_eq, not_true_eq_false, not_false_eq_true] at hb)) | ((first | refine awg_split (fun hb => ?_) (fun hb => ?_) | refine awsg_split (fun hb => ?_) (fun hb => ?_)) <;> have hb0 := hb <;> (try simp only [decide_eq_true_eq, decide_eq_false_iff_not, Bool.not_eq_true', Bool.not_eq_false', Bool.true_eq_false, Bool.false_eq_true, beq_iff_eq, bne_iff_ne, bne_eq_false_iff_eq, beq_eq_false_iff_ne, gt_iff_lt, ge_iff_le, Int.reduceEq, Int.reduceNe, Int.reduceLT, Int.reduceLE, ne_eq, not_true_eq_false, not_false_eq_true] at hb0) <;> (try simp only [beq_true, beq_false, Bool.not_eq_true', Bool.not_eq_false'] at hb) <;> (simp only [go_sem, Nat.reduceAdd, Nat.reduceSub, Nat.reduceMul, Nat.reduceLeDiff, Nat.reduceLT, Nat.reduceEqDiff, Int.reduceToNat, Int.reduceAdd, Int.reduceMul, Int.reduceSub, Int.reduceLT, Int.reduceLE, Int.reduceEq, Int.reduceNeg, Int.reduceBEq, Int.reduceBNe, ↓reduceIte, reduceCtorEq, hb, hb0] <;> try simp (disch := omega) only [wrap_of])) | (refine And.intro ?_ ?_) | refine awp_skip ?_ | refine awp_ret ?_ | refine awp_exit ?_ | refine awp_label ?_ | refine awloop_step ?_ | fail)
    refine awp_loop 1 ?_
    unfold AWLoop
    repeat' (first | refine awp_seq ?_ | refine awp_block ?_ | ((first | refine awp_region_k fun Kn Kp hn hp => ?_ | refine oge_intro (by assumption) ?_) <;> (simp only [go_sem, Nat.reduceAdd, Nat.reduceSub, Nat.reduceMul, Nat.reduceLeDiff, Nat.reduceLT, Nat.reduceEqDiff, Int.reduceToNat, Int.reduceAdd, Int.reduceMul, Int.reduceSub, Int.reduceLT, Int.reduceLE, Int.reduceEq, Int.reduceNeg, Int.reduceBEq, Int.reduceBNe, ↓reduceIte, reduceCtorEq] <;> try simp (disch := omega) only [wrap_of])) | (refine hn _ _ ?_; clear hn hp Kn Kp) | (refine hp _ _ _ ?_; clear hn hp Kn Kp) | (refine awp_cond rfl (fun hb => ?_) (fun hb => ?_) <;> (try simp only [decide_eq_true_eq, decide_eq_false_iff_not, Bool.not_eq_true', Bool.not_eq_false', Bool.true_eq_false, Bool.false_eq_true, beq_iff_eq, bne_iff_ne, bne_eq_false_iff_eq, beq_eq_false_iff_ne, gt_iff_lt, ge_iff_le, Int.reduceEq, Int.reduceNe, Int.reduceLT, Int.reduceLE, ne_eq, not_true_eq_false, not_false_eq_true] at hb)) | ((first | refine awg_split (fun hb => ?_) (fun hb => ?_) | refine awsg_split (fun hb => ?_) (fun hb => ?_)) <;> have hb0 := hb <;> (try simp only [decide_eq_true_eq, decide_eq_false_iff_not, Bool.not_eq_true', Bool.not_eq_false', Bool.true_eq_false, Bool.false_eq_true, beq_iff_eq, bne_iff_ne, bne_eq_false_iff_eq, beq_eq_false_iff_ne, gt_iff_lt, ge_iff_le, Int.reduceEq, Int.reduceNe, Int.reduceLT, Int.reduceLE, ne_eq, not_true_eq_false, not_false_eq_true] at hb0) <;> (try simp only [beq_true, beq_false, Bool.not_eq_true', Bool.not_eq_false'] at hb) <;> (simp only [go_sem, Nat.reduceAdd, Nat.reduceSub, Nat.reduceMul, Nat.reduceLeDiff, Nat.reduceLT, Nat.reduceEqDiff, Int.reduceToNat, Int.reduceAdd, Int.reduceMul, Int.reduceSub, Int.reduceLT, Int.reduceLE, Int.reduceEq, Int.reduceNeg, Int.reduceBEq, Int.reduceBNe, ↓reduceIte, reduceCtorEq, hb, hb0] <;> try simp (disch := omega) only [wrap_of])) | (refine And.intro ?_ ?_) | refine awp_skip ?_ | refine awp_ret ?_ | refine awp_exit ?_ | refine awp_label ?_ | refine awloop_step ?_ | fail)
    ((try simp only [go_sem, Nat.reduceAdd, Nat.reduceSub, Nat.reduceMul, Nat.reduceLeDiff, Nat.reduceLT, Nat.reduceEqDiff, Int.reduceToNat, Int.reduceAdd, Int.reduceMul, Int.reduceSub, Int.reduceLT, Int.reduceLE, Int.reduceEq, Int.reduceNeg, Int.reduceBEq, Int.reduceBNe, ↓reduceIte, reduceCtorEq]); (first | refine ⟨_, rfl, _, rfl, Fin.pure0 0 ?_⟩ | refine ⟨_, rfl, _, rfl, Fin.pure 1 ?_⟩); simp only [AV.low, List.map_cons, List.map_nil, aOne, aev, List.getElem?_cons_zero, List.getElem?_cons_succ, Option.getD_some, List.length_append, List.length_cons, List.length_nil, Nat.lt_irrefl, if_false]; try rfl)
    all_goals simp [stSL]
  | succ N ihN =>
    intro t hN H0
    (refine ARun.intro Try.func51 rfl Try.call51 Try.ntmps51 Try.results51 ?_; simp only [List.length_cons, List.length_nil, List.length_map, Nat.reduceAdd, Nat.reduceSub, List.replicate_succ, List.replicate_zero, List.cons_append, List.nil_append])
    refine awp_len 1 rfl fun hlen => ?_
    rw [List.length_map] at hlen
    repeat' (first | refine awp_seq ?_ | refine awp_block ?_ | ((first | refine awp_region_k fun Kn Kp hn hp => ?_ | refine oge_intro (by assumption) ?_) <;> (simp only [go_sem, Nat.reduceAdd, Nat.reduceSub, Nat.reduceMul, Nat.reduceLeDiff, Nat.reduceLT, Nat.reduceEqDiff, Int.reduceToNat, Int.reduceAdd, Int.reduceMul, Int.reduceSub, Int.reduceLT, Int.reduceLE, Int.reduceEq, Int.reduceNeg, Int.reduceBEq, Int.reduceBNe, ↓reduceIte, reduceCtorEq] <;> try simp (disch := omega) only [wrap_of])) | (refine hn _ _ ?_; clear hn hp Kn Kp) | (refine hp _ _ _ ?_; clear hn hp Kn Kp) | (refine awp_cond rfl (fun hb => ?_) (fun hb => ?_) <;> (try simp only [decide_eq_true_eq, decide_eq_false_iff_not, Bool.not_eq_true', Bool.not_eq_false', Bool.true_eq_false, Bool.false_eq_true, beq_iff_eq, bne_iff_ne, bne_eq_false_iff_eq, beq_eq_false_iff_ne, gt_iff_lt, ge_iff_le, Int.reduceEq, Int.reduceNe, Int.reduceLT, Int.reduceLE, ne_eq, not_true_eq_false, not_false_eq_true] at hb)) | ((first | refine awg_split (fun hb => ?_) (fun hb => ?_) | refine awsg_split (fun hb => ?_) (fun hb => ?_)) <;> have hb0 := hb <;> (try simp only [decide_eq_true_eq, decide_eq_false_iff_not, Bool.not_eq_true', Bool.not_eq_false', Bool.true_eq_false, Bool.false_eq_true, beq_iff_eq, bne_iff_ne, bne_eq_false_iff_eq, beq_eq_false_iff_ne, gt_iff_lt, ge_iff_le, Int.reduceEq, Int.reduceNe, Int.reduceLT, Int.reduceLE, ne_eq, not_true_eq_false, not_false_eq_true] at hb0) <;> (try simp only [beq_true, beq_false, Bool.not_eq_true', Bool.not_eq_false'] at hb) <;> (simp only [go_sem, Nat.reduceAdd, Nat.reduceSub, Nat.reduceMul, Nat.reduceLeDiff, Nat.reduceLT, Nat.reduceEqDiff, Int.reduceToNat, Int.reduceAdd, Int.reduceMul, Int.reduceSub, Int.reduceLT, Int.reduceLE, Int.reduceEq, Int.reduceNeg, Int.reduceBEq, Int.reduceBNe, ↓reduceIte, reduceCtorEq, hb, hb0] <;> try simp (disch := omega) only [wrap_of])) | (refine And.intro ?_ ?_) | refine awp_skip ?_ | refine awp_ret ?_ | refine awp_exit ?_ | refine awp_label ?_ | refine awloop_step ?_ | fail)
    refine awp_loop_ind (σ := Nat) (fun s => t.length - s) (fun s => s ≤ t.length ∧ stSL us t = stSL us (t.drop s))
      (fun s => (.rs 5 (l.map encV) :: .rs 13 (t.map encS) :: .any :: .any :: .any :: .i s :: .any :: .any :: .any :: .any :: .any :: .any :: .any :: .any :: .any :: .any :: .any :: .any :: .any :: .any :: .any :: .any :: []))
      (fun s => H0) 0 ⟨Nat.zero_le _, by simp⟩ (by (refine Wk.fgt ?_; simp only [Fgt, List.length_nil, List.set_cons_zero, List.set_cons_succ, Int.natCast_zero, Int.cast_ofNat_Int, Int.ofNat_eq_natCast, true_or, or_true, true_and, and_true, and_self, eq_self])) ?_
    rintro i ⟨h1, h4⟩
    cases hr : t.drop i with
    | nil =>
      have hlt := drop_nil hr
      rw [hr, stSL] at h4
      repeat' (first | refine awp_seq ?_ | refine awp_block ?_ | ((first | refine awp_region_k fun Kn Kp hn hp => ?_ | refine oge_intro (by assumption) ?_) <;> (simp only [go_sem, Nat.reduceAdd, Nat.reduceSub, Nat.reduceMul, Nat.reduceLeDiff, Nat.reduceLT, Nat.reduceEqDiff, Int.reduceToNat, Int.reduceAdd, Int.reduceMul, Int.reduceSub, Int.reduceLT, Int.reduceLE, Int.reduceEq, Int.reduceNeg, Int.reduceBEq, Int.reduceBNe, ↓reduceIte, reduceCtorEq, hlt] <;> try simp (disch := omega) only [wrap_of])) | (refine hn _ _ ?_; clear hn hp Kn Kp) | (refine hp _ _ _ ?_; clear hn hp Kn Kp) | (refine awp_cond rfl (fun hb => ?_) (fun hb => ?_) <;> (try simp only [decide_eq_true_eq, decide_eq_false_iff_not, Bool.not_eq_true', Bool.not_eq_false', Bool.true_eq_false, Bool.false_eq_true, beq_iff_eq, bne_iff_ne, bne_eq_false_iff_eq, beq_eq_false_iff_ne, gt_iff_lt, ge_iff_le, Int.reduceEq, Int.reduceNe, Int.reduceLT, Int.reduceLE, ne_eq, not_true_eq_false, not_false_eq_true] at hb)) | ((first | refine awg_split (fun hb => ?_) (fun hb => ?_) | refine awsg_split (fun hb => ?_) (fun hb => ?_)) <;> have hb0 := hb <;> (try simp only [decide_eq_true_eq, decide_eq_false_iff_not, Bool.not_eq_true', Bool.not_eq_false', Bool.true_eq_false, Bool.false_eq_true, beq_iff_eq, bne_iff_ne, bne_eq_false_iff_eq, beq_eq_false_iff_ne, gt_iff_lt, ge_iff_le, Int.reduceEq, Int.reduceNe, Int.reduceLT, Int.reduceLE, ne_eq, not_true_eq_false, not_false_eq_true] at hb0) <;> (try simp only [beq_true, beq_false, Bool.not_eq_true', Bool.not_eq_false'] at hb) <;> (simp only [go_sem, Nat.reduceAdd, Nat.reduceSub, Nat.reduceMul, Nat.reduceLeDiff, Nat.reduceLT, Nat.reduceEqDiff, Int.reduceToNat, Int.reduceAdd, Int.reduceMul, Int.reduceSub, Int.reduceLT, Int.reduceLE, Int.reduceEq, Int.reduceNeg, Int.reduceBEq, Int.reduceBNe, ↓reduceIte, reduceCtorEq, hlt, hb, hb0] <;> try simp (disch := omega) only [wrap_of])) | (refine And.intro ?_ ?_) | refine awp_skip ?_ | refine awp_ret ?_ | refine awp_exit ?_ | refine awp_label ?_ | refine awloop_step ?_ | fail)
      ((try simp only [go_sem, Nat.reduceAdd, Nat.reduceSub, Nat.reduceMul, Nat.reduceLeDiff, Nat.reduceLT, Nat.reduceEqDiff, Int.reduceToNat, Int.reduceAdd, Int.reduceMul, Int.reduceSub, Int.reduceLT, Int.reduceLE, Int.reduceEq, Int.reduceNeg, Int.reduceBEq, Int.reduceBNe, ↓reduceIte, reduceCtorEq]); (first | refine ⟨_, rfl, _, rfl, Fin.pure0 0 ?_⟩ | refine ⟨_, rfl, _, rfl, Fin.pure 1 ?_⟩); simp only [AV.low, List.map_cons, List.map_nil, aOne, aev, List.getElem?_cons_zero, List.getElem?_cons_succ, Option.getD_some, List.length_append, List.length_cons, List.length_nil, Nat.lt_irrefl, if_false]; try rfl)
      rw [h4]
    | cons k rest =>
      obtain ⟨hk, hlt, hd, hm⟩ := drop_cons hr
      have hmm := totL_mem hm
      rw [tot_eq] at hmm
      have hs := fun H0 => Rstmt_run l us hks k (fun H0 => ihN k.thn (by omega) H0) (fun H0 => ihN k.els (by omega) H0) H0
      rw [hr] at h4
      simp only [stSL] at h4
      by_cases h0 : stS us k = 0
      · have h0' : (stS us k != 0) = false := by simp [h0]
        rw [if_pos h0] at h4
        repeat' (first | refine awp_seq ?_ | refine awp_block ?_ | ((first | refine awp_region_k fun Kn Kp hn hp => ?_ | refine oge_intro (by assumption) ?_ | refine awe_intro (hs _) ?_ | refine awsf_intro (hs _) (fun hrun => ?_) | refine oge_intro (hs _) ?_ | refine awse_intro (hs _) (fun hrun => ?_) | refine pge_intro (hs _) (fun tm' => ?_)) <;> (simp only [go_sem, Nat.reduceAdd, Nat.reduceSub, Nat.reduceMul, Nat.reduceLeDiff, Nat.reduceLT, Nat.reduceEqDiff, Int.reduceToNat, Int.reduceAdd, Int.reduceMul, Int.reduceSub, Int.reduceLT, Int.reduceLE, Int.reduceEq, Int.reduceNeg, Int.reduceBEq, Int.reduceBNe, ↓reduceIte, reduceCtorEq, hlt, hk, encS_eq, h0'] <;> try simp (disch := omega) only [wrap_of])) | (refine hn _ _ ?_; clear hn hp Kn Kp) | (refine hp _ _ _ ?_; clear hn hp Kn Kp) | (refine awp_cond rfl (fun hb => ?_) (fun hb => ?_) <;> (try simp only [decide_eq_true_eq, decide_eq_false_iff_not, Bool.not_eq_true', Bool.not_eq_false', Bool.true_eq_false, Bool.false_eq_true, beq_iff_eq, bne_iff_ne, bne_eq_false_iff_eq, beq_eq_false_iff_ne, gt_iff_lt, ge_iff_le, Int.reduceEq, Int.reduceNe, Int.reduceLT, Int.reduceLE, ne_eq, not_true_eq_false, not_false_eq_true] at hb)) | ((first | refine awg_split (fun hb => ?_) (fun hb => ?_) | refine awsg_split (fun hb => ?_) (fun hb => ?_)) <;> have hb0 := hb <;> (try simp only [decide_eq_true_eq, decide_eq_false_iff_not, Bool.not_eq_true', Bool.not_eq_false', Bool.true_eq_false, Bool.false_eq_true, beq_iff_eq, bne_iff_ne, bne_eq_false_iff_eq, beq_eq_false_iff_ne, gt_iff_lt, ge_iff_le, Int.reduceEq, Int.reduceNe, Int.reduceLT, Int.reduceLE, ne_eq, not_true_eq_false, not_false_eq_true] at hb0) <;> (try simp only [beq_true, beq_false, Bool.not_eq_true', Bool.not_eq_false'] at hb) <;> (simp only [go_sem, Nat.reduceAdd, Nat.reduceSub, Nat.reduceMul, Nat.reduceLeDiff, Nat.reduceLT, Nat.reduceEqDiff, Int.reduceToNat, Int.reduceAdd, Int.reduceMul, Int.reduceSub, Int.reduceLT, Int.reduceLE, Int.reduceEq, Int.reduceNeg, Int.reduceBEq, Int.reduceBNe, ↓reduceIte, reduceCtorEq, hlt, hk, encS_eq, h0', hb, hb0] <;> try simp (disch := omega) only [wrap_of])) | (refine And.intro ?_ ?_) | refine awp_skip ?_ | refine awp_ret ?_ | refine awp_exit ?_ | refine awp_label ?_ | refine awloop_step ?_ | fail)
        refine ⟨i + 1, by omega, ⟨by omega, by rw [h4, hd]⟩, ?_⟩
        (first | (refine Wk.drop0 1 ?_; simp only [List.map_cons, List.map_nil, AV.low, List.length_append, List.length_cons, List.length_nil, Nat.lt_irrefl, if_false, Fgt, Int.natCast_zero, Int.cast_ofNat_Int, Int.ofNat_eq_natCast, true_or, or_true, true_and, and_true, and_self, eq_self]) | (refine Wk.fgt ?_; simp only [Fgt, List.length_nil, List.set_cons_zero, List.set_cons_succ, Int.natCast_zero, Int.cast_ofNat_Int, Int.ofNat_eq_natCast, true_or, or_true, true_and, and_true, and_self, eq_self]))
        simp [wrap_of (n := (i : Int) + 1) (by omega) (by omega)]
      · have h0' : (stS us k != 0) = true := by simpa using h0
        rw [if_neg h0] at h4
        repeat' (first | refine awp_seq ?_ | refine awp_block ?_ | ((first | refine awp_region_k fun Kn Kp hn hp => ?_ | refine oge_intro (by assumption) ?_ | refine awe_intro (hs _) ?_ | refine awsf_intro (hs _) (fun hrun => ?_) | refine oge_intro (hs _) ?_ | refine awse_intro (hs _) (fun hrun => ?_) | refine pge_intro (hs _) (fun tm' => ?_)) <;> (simp only [go_sem, Nat.reduceAdd, Nat.reduceSub, Nat.reduceMul, Nat.reduceLeDiff, Nat.reduceLT, Nat.reduceEqDiff, Int.reduceToNat, Int.reduceAdd, Int.reduceMul, Int.reduceSub, Int.reduceLT, Int.reduceLE, Int.reduceEq, Int.reduceNeg, Int.reduceBEq, Int.reduceBNe, ↓reduceIte, reduceCtorEq, hlt, hk, encS_eq, h0'] <;> try simp (disch := omega) only [wrap_of])) | (refine hn _ _ ?_; clear hn hp Kn Kp) | (refine hp _ _ _ ?_; clear hn hp Kn Kp) | (refine awp_cond rfl (fun hb => ?_) (fun hb => ?_) <;> (try simp only [decide_eq_true_eq, decide_eq_false_iff_not, Bool.not_eq_true', Bool.not_eq_false', Bool.true_eq_false, Bool.false_eq_true, beq_iff_eq, bne_iff_ne, bne_eq_false_iff_eq, beq_eq_false_iff_ne, gt_iff_lt, ge_iff_le, Int.reduceEq, Int.reduceNe, Int.reduceLT, Int.reduceLE, ne_eq, not_true_eq_false, not_false_eq_true] at hb)) | ((first | refine awg_split (fun hb => ?_) (fun hb => ?_) | refine awsg_split (fun hb => ?_) (fun hb => ?_)) <;> have hb0 := hb <;> (try simp only [decide_eq_true_eq, decide_eq_false_iff_not, Bool.not_eq_true', Bool.not_eq_false', Bool.true_eq_false, Bool.false_eq_true, beq_iff_eq, bne_iff_ne, bne_eq_false_iff_eq, beq_eq_false_iff_ne, gt_iff_lt, ge_iff_le, Int.reduceEq, Int.reduceNe, Int.reduceLT, Int.reduceLE, ne_eq, not_true_eq_false, not_false_eq_true] at hb0) <;> (try simp only [beq_true, beq_false, Bool.not_eq_true', Bool.not_eq_false'] at hb) <;> (simp only [go_sem, Nat.reduceAdd, Nat.reduceSub, Nat.reduceMul, Nat.reduceLeDiff, Nat.reduceLT, Nat.reduceEqDiff, Int.reduceToNat, Int.reduceAdd, Int.reduceMul, Int.reduceSub, Int.reduceLT, Int.reduceLE, Int.reduceEq, Int.reduceNeg, Int.reduceBEq, Int.reduceBNe, ↓reduceIte, reduceCtorEq, hlt, hk, encS_eq, h0', hb, hb0] <;> try simp (disch := omega) only [wrap_of])) | (refine And.intro ?_ ?_) | refine awp_skip ?_ | refine awp_ret ?_ | refine awp_exit ?_ | refine awp_label ?_ | refine awloop_step ?_ | fail)
        ((try simp only [go_sem, Nat.reduceAdd, Nat.reduceSub, Nat.reduceMul, Nat.reduceLeDiff, Nat.reduceLT, Nat.reduceEqDiff, Int.reduceToNat, Int.reduceAdd, Int.reduceMul, Int.reduceSub, Int.reduceLT, Int.reduceLE, Int.reduceEq, Int.reduceNeg, Int.reduceBEq, Int.reduceBNe, ↓reduceIte, reduceCtorEq]); (first | refine ⟨_, rfl, _, rfl, Fin.pure0 0 ?_⟩ | refine ⟨_, rfl, _, rfl, Fin.pure 1 ?_⟩); simp only [AV.low, List.map_cons, List.map_nil, aOne, aev, List.getElem?_cons_zero, List.getElem?_cons_succ, Option.getD_some, List.length_append, List.length_cons, List.length_nil, Nat.lt_irrefl, if_false]; try rfl)
        rw [h4]

theorem RHandler_run (l : List Vr) (us : List Un) (hks : ksL l = some us) (t : List St) (hM : manyL t ≤ 1100000) (H0 : List AObj) : ARun Try.prog 38 [.rs 5 (l.map encV), .rs 13 (t.map encS)] H0 (.ret (.i (handS us t)) H0) := by
  have hm := fun H0 => RMany_run _ t (Nat.le_refl _) hM 100 H0 (by omega) (by omega)
  have hg := mnL_gt t 100
  have hs := fun H0 => RShort_run _ t (Nat.le_refl _) H0
  have ht := fun H0 => Rstmts_run l us hks _ t (Nat.le_refl _) H0
  unfold handS
  by_cases h : 100 < mnL t 100 0
  · have : 100 < manyL t := by omega
    simp only [this, if_true]
    (refine ARun.intro Try.func38 rfl Try.call38 Try.ntmps38 Try.results38 ?_; simp only [List.length_cons, List.length_nil, List.length_map, Nat.reduceAdd, Nat.reduceSub, List.replicate_succ, List.replicate_zero, List.cons_append, List.nil_append])
    repeat' (first | refine awp_seq ?_ | refine awp_block ?_ | ((first | refine awp_region_k fun Kn Kp hn hp => ?_ | refine oge_intro (by assumption) ?_ | refine awe_intro (hm _) ?_ | refine awsf_intro (hm _) (fun hrun => ?_) | refine oge_intro (hm _) ?_ | refine awse_intro (hm _) (fun hrun => ?_) | refine pge_intro (hm _) (fun tm' => ?_)) <;> (simp only [go_sem, Nat.reduceAdd, Nat.reduceSub, Nat.reduceMul, Nat.reduceLeDiff, Nat.reduceLT, Nat.reduceEqDiff, Int.reduceToNat, Int.reduceAdd, Int.reduceMul, Int.reduceSub, Int.reduceLT, Int.reduceLE, Int.reduceEq, Int.reduceNeg, Int.reduceBEq, Int.reduceBNe, ↓reduceIte, reduceCtorEq, h] <;> try simp (disch := omega) only [wrap_of])) | (refine hn _ _ ?_; clear hn hp Kn Kp) | (refine hp _ _ _ ?_; clear hn hp Kn Kp) | (refine awp_cond rfl (fun hb => ?_) (fun hb => ?_) <;> (try simp only [decide_eq_true_eq, decide_eq_false_iff_not, Bool.not_eq_true', Bool.not_eq_false', Bool.true_eq_false, Bool.false_eq_true, beq_iff_eq, bne_iff_ne, bne_eq_false_iff_eq, beq_eq_false_iff_ne, gt_iff_lt, ge_iff_le, Int.reduceEq, Int.reduceNe, Int.reduceLT, Int.reduceLE, ne_eq, not_true_eq_false, not_false_eq_true] at hb)) | ((first | refine awg_split (fun hb => ?_) (fun hb => ?_) | refine awsg_split (fun hb => ?_) (fun hb => ?_)) <;> have hb0 := hb <;> (try simp only [decide_eq_true_eq, decide_eq_false_iff_not, Bool.not_eq_true', Bool.not_eq_false', Bool.true_eq_false, Bool.false_eq_true, beq_iff_eq, bne_iff_ne, bne_eq_false_iff_eq, beq_eq_false_iff_ne, gt_iff_lt, ge_iff_le, Int.reduceEq, Int.reduceNe, Int.reduceLT, Int.reduceLE, ne_eq, not_true_eq_false, not_false_eq_true] at hb0) <;> (try simp only [beq_true, beq_false, Bool.not_eq_true', Bool.not_eq_false'] at hb) <;> (simp only [go_sem, Nat.reduceAdd, Nat.reduceSub, Nat.reduceMul, Nat.reduceLeDiff, Nat.reduceLT, Nat.reduceEqDiff, Int.reduceToNat, Int.reduceAdd, Int.reduceMul, Int.reduceSub, Int.reduceLT, Int.reduceLE, Int.reduceEq, Int.reduceNeg, Int.reduceBEq, Int.reduceBNe, ↓reduceIte, reduceCtorEq, h, hb, hb0] <;> try simp (disch := omega) only [wrap_of])) | (refine And.intro ?_ ?_) | refine awp_skip ?_ | refine awp_ret ?_ | refine awp_exit ?_ | refine awp_label ?_ | refine awloop_step ?_ | fail)
    ((try simp only [go_sem, Nat.reduceAdd, Nat.reduceSub, Nat.reduceMul, Nat.reduceLeDiff, Nat.reduceLT, Nat.reduceEqDiff, Int.reduceToNat, Int.reduceAdd, Int.reduceMul, Int.reduceSub, Int.reduceLT, Int.reduceLE, Int.reduceEq, Int.reduceNeg, Int.reduceBEq, Int.reduceBNe, ↓reduceIte, reduceCtorEq]); (first | refine ⟨_, rfl, _, rfl, Fin.pure0 0 ?_⟩ | refine ⟨_, rfl, _, rfl, Fin.pure 1 ?_⟩); simp only [AV.low, List.map_cons, List.map_nil, aOne, aev, List.getElem?_cons_zero, List.getElem?_cons_succ, Option.getD_some, List.length_append, List.length_cons, List.length_nil, Nat.lt_irrefl, if_false]; try rfl)
  · have : ¬ 100 < manyL t := by omega
    simp only [this, if_false]
    cases hS : smSL t with
    | false =>
      simp only [hS] at hs
      (refine ARun.intro Try.func38 rfl Try.call38 Try.ntmps38 Try.results38 ?_; simp only [List.length_cons, List.length_nil, List.length_map, Nat.reduceAdd, Nat.reduceSub, List.replicate_succ, List.replicate_zero, List.cons_append, List.nil_append])
      repeat' (first | refine awp_seq ?_ | refine awp_block ?_ | ((first | refine awp_region_k fun Kn Kp hn hp => ?_ | refine oge_intro (by assumption) ?_ | refine awe_intro (hm _) ?_ | refine awsf_intro (hm _) (fun hrun => ?_) | refine oge_intro (hm _) ?_ | refine awse_intro (hm _) (fun hrun => ?_) | refine pge_intro (hm _) (fun tm' => ?_) | refine awe_intro (hs _) ?_ | refine awsf_intro (hs _) (fun hrun => ?_) | refine oge_intro (hs _) ?_ | refine awse_intro (hs _) (fun hrun => ?_) | refine pge_intro (hs _) (fun tm' => ?_)) <;> (simp only [go_sem, Nat.reduceAdd, Nat.reduceSub, Nat.reduceMul, Nat.reduceLeDiff, Nat.reduceLT, Nat.reduceEqDiff, Int.reduceToNat, Int.reduceAdd, Int.reduceMul, Int.reduceSub, Int.reduceLT, Int.reduceLE, Int.reduceEq, Int.reduceNeg, Int.reduceBEq, Int.reduceBNe, ↓reduceIte, reduceCtorEq, h] <;> try simp (disch := omega) only [wrap_of])) | (refine hn _ _ ?_; clear hn hp Kn Kp) | (refine hp _ _ _ ?_; clear hn hp Kn Kp) | (refine awp_cond rfl (fun hb => ?_) (fun hb => ?_) <;> (try simp only [decide_eq_true_eq, decide_eq_false_iff_not, Bool.not_eq_true', Bool.not_eq_false', Bool.true_eq_false, Bool.false_eq_true, beq_iff_eq, bne_iff_ne, bne_eq_false_iff_eq, beq_eq_false_iff_ne, gt_iff_lt, ge_iff_le, Int.reduceEq, Int.reduceNe, Int.reduceLT, Int.reduceLE, ne_eq, not_true_eq_false, not_false_eq_true] at hb)) | ((first | refine awg_split (fun hb => ?_) (fun hb => ?_) | refine awsg_split (fun hb => ?_) (fun hb => ?_)) <;> have hb0 := hb <;> (try simp only [decide_eq_true_eq, decide_eq_false_iff_not, Bool.not_eq_true', Bool.not_eq_false', Bool.true_eq_false, Bool.false_eq_true, beq_iff_eq, bne_iff_ne, bne_eq_false_iff_eq, beq_eq_false_iff_ne, gt_iff_lt, ge_iff_le, Int.reduceEq, Int.reduceNe, Int.reduceLT, Int.reduceLE, ne_eq, not_true_eq_false, not_false_eq_true] at hb0) <;> (try simp only [beq_true, beq_false, Bool.not_eq_true', Bool.not_eq_false'] at hb) <;> (simp only [go_sem, Nat.reduceAdd, Nat.reduceSub, Nat.reduceMul, Nat.reduceLeDiff, Nat.reduceLT, Nat.reduceEqDiff, Int.reduceToNat, Int.reduceAdd, Int.reduceMul, Int.reduceSub, Int.reduceLT, Int.reduceLE, Int.reduceEq, Int.reduceNeg, Int.reduceBEq, Int.reduceBNe, ↓reduceIte, reduceCtorEq, h, hb, hb0] <;> try simp (disch := omega) only [wrap_of])) | (refine And.intro ?_ ?_) | refine awp_skip ?_ | refine awp_ret ?_ | refine awp_exit ?_ | refine awp_label ?_ | refine awloop_step ?_ | fail)
      ((try simp only [go_sem, Nat.reduceAdd, Nat.reduceSub, Nat.reduceMul, Nat.reduceLeDiff, Nat.reduceLT, Nat.reduceEqDiff, Int.reduceToNat, Int.reduceAdd, Int.reduceMul, Int.reduceSub, Int.reduceLT, Int.reduceLE, Int.reduceEq, Int.reduceNeg, Int.reduceBEq, Int.reduceBNe, ↓reduceIte, reduceCtorEq]); (first | refine ⟨_, rfl, _, rfl, Fin.pure0 0 ?_⟩ | refine ⟨_, rfl, _, rfl, Fin.pure 1 ?_⟩); simp only [AV.low, List.map_cons, List.map_nil, aOne, aev, List.getElem?_cons_zero, List.getElem?_cons_succ, Option.getD_some, List.length_append, List.length_cons, List.length_nil, Nat.lt_irrefl, if_false]; try rfl)
    | true =>
      simp only [hS] at hs
      (refine ARun.intro Try.func38 rfl Try.call38 Try.ntmps38 Try.results38 ?_; simp only [List.length_cons, List.length_nil, List.length_map, Nat.reduceAdd, Nat.reduceSub, List.replicate_succ, List.replicate_zero, List.cons_append, List.nil_append])
      repeat' (first | refine awp_seq ?_ | refine awp_block ?_ | ((first | refine awp_region_k fun Kn Kp hn hp => ?_ | refine oge_intro (by assumption) ?_ | refine awe_intro (hm _) ?_ | refine awsf_intro (hm _) (fun hrun => ?_) | refine oge_intro (hm _) ?_ | refine awse_intro (hm _) (fun hrun => ?_) | refine pge_intro (hm _) (fun tm' => ?_) | refine awe_intro (hs _) ?_ | refine awsf_intro (hs _) (fun hrun => ?_) | refine oge_intro (hs _) ?_ | refine awse_intro (hs _) (fun hrun => ?_) | refine pge_intro (hs _) (fun tm' => ?_) | refine awe_intro (ht _) ?_ | refine awsf_intro (ht _) (fun hrun => ?_) | refine oge_intro (ht _) ?_ | refine awse_intro (ht _) (fun hrun => ?_) | refine pge_intro (ht _) (fun tm' => ?_)) <;> (simp only [go_sem, Nat.reduceAdd, Nat.reduceSub, Nat.reduceMul, Nat.reduceLeDiff, Nat.reduceLT, Nat.reduceEqDiff, Int.reduceToNat, Int.reduceAdd, Int.reduceMul, Int.reduceSub, Int.reduceLT, Int.reduceLE, Int.reduceEq, Int.reduceNeg, Int.reduceBEq, Int.reduceBNe, ↓reduceIte, reduceCtorEq, h] <;> try simp (disch := omega) only [wrap_of])) | (refine hn _ _ ?_; clear hn hp Kn Kp) | (refine hp _ _ _ ?_; clear hn hp Kn Kp) | (refine awp_cond rfl (fun hb => ?_) (fun hb => ?_) <;> (try simp only [decide_eq_true_eq, decide_eq_false_iff_not, Bool.not_eq_true', Bool.not_eq_false', Bool.true_eq_false, Bool.false_eq_true, beq_iff_eq, bne_iff_ne, bne_eq_false_iff_eq, beq_eq_false_iff_ne, gt_iff_lt, ge_iff_le, Int.reduceEq, Int.reduceNe, Int.reduceLT, Int.reduceLE, ne_eq, not_true_eq_false, not_false_eq_true] at hb)) | ((first | refine awg_split (fun hb => ?_) (fun hb => ?_) | refine awsg_split (fun hb => ?_) (fun hb => ?_)) <;> have hb0 := hb <;> (try simp only [decide_eq_true_eq, decide_eq_false_iff_not, Bool.not_eq_true', Bool.not_eq_false', Bool.true_eq_false, Bool.false_eq_true, beq_iff_eq, bne_iff_ne, bne_eq_false_iff_eq, beq_eq_false_iff_ne, gt_iff_lt, ge_iff_le, Int.reduceEq, Int.reduceNe, Int.reduceLT, Int.reduceLE, ne_eq, not_true_eq_false, not_false_eq_true] at hb0) <;> (try simp only [beq_true, beq_false, Bool.not_eq_true', Bool.not_eq_false'] at hb) <;> (simp only [go_sem, Nat.reduceAdd, Nat.reduceSub, Nat.reduceMul, Nat.reduceLeDiff, Nat.reduceLT, Nat.reduceEqDiff, Int.reduceToNat, Int.reduceAdd, Int.reduceMul, Int.reduceSub, Int.reduceLT, Int.reduceLE, Int.reduceEq, Int.reduceNeg, Int.reduceBEq, Int.reduceBNe, ↓reduceIte, reduceCtorEq, h, hb, hb0] <;> try simp (disch := omega) only [wrap_of])) | (refine And.intro ?_ ?_) | refine awp_skip ?_ | refine awp_ret ?_ | refine awp_exit ?_ | refine awp_label ?_ | refine awloop_step ?_ | fail)
      ((try simp only [go_sem, Nat.reduceAdd, Nat.reduceSub, Nat.reduceMul, Nat.reduceLeDiff, Nat.reduceLT, Nat.reduceEqDiff, Int.reduceToNat, Int.reduceAdd, Int.reduceMul, Int.reduceSub, Int.reduceLT, Int.reduceLE, Int.reduceEq, Int.reduceNeg, Int.reduceBEq, Int.reduceBNe, ↓reduceIte, reduceCtorEq]); (first | refine ⟨_, rfl, _, rfl, Fin.pure0 0 ?_⟩ | refine ⟨_, rfl, _, rfl, Fin.pure 1 ?_⟩); simp only [AV.low, List.map_cons, List.map_nil, aOne, aev, List.getElem?_cons_zero, List.getElem?_cons_succ, Option.getD_some, List.length_append, List.length_cons, List.length_nil, Nat.lt_irrefl, if_false]; try rfl)

theorem RCheck_run (p : Prg) (hp : fine1 p) (H0 : List AObj) : ARun Try.prog 15 [.ag (cP p)] H0 (.ret (ansC (checkS p)) H0) := by
  obtain ⟨q0, q1, q2, q3, q4, q5⟩ := hp
  have hv := fun H0 => RVars_run p.vars q5 H0
  unfold varsB at hv
  unfold checkS
  cases hks : ksL p.vars with
  | none =>
    simp only [hks] at hv
    (refine ARun.intro Try.func15 rfl Try.call15 Try.ntmps15 Try.results15 ?_; simp only [List.length_cons, List.length_nil, List.length_map, Nat.reduceAdd, Nat.reduceSub, List.replicate_succ, List.replicate_zero, List.cons_append, List.nil_append])
    repeat' (first | refine awp_seq ?_ | refine awp_block ?_ | ((first | refine awp_region_k fun Kn Kp hn hp => ?_ | refine awp_drawn_k (id := 7) [6] [] [.win [0], .win [0], .win [0], .win [0], .win [0], .win [0], .eff 0, .win [1]] 1 rfl (by as_aux_lemma => kernel_rfl) fun Kn Kp hn hp => ?_ | refine oge_intro (by assumption) ?_ | refine awe_intro (hv _) ?_ | refine awsf_intro (hv _) (fun hrun => ?_) | refine oge_intro (hv _) ?_ | refine awse_intro (hv _) (fun hrun => ?_) | refine pge_intro (hv _) (fun tm' => ?_)) <;> (simp only [go_sem, Nat.reduceAdd, Nat.reduceSub, Nat.reduceMul, Nat.reduceLeDiff, Nat.reduceLT, Nat.reduceEqDiff, Int.reduceToNat, Int.reduceAdd, Int.reduceMul, Int.reduceSub, Int.reduceLT, Int.reduceLE, Int.reduceEq, Int.reduceNeg, Int.reduceBEq, Int.reduceBNe, ↓reduceIte, reduceCtorEq] <;> try simp (disch := omega) only [wrap_of])) | (refine hn _ _ ?_; clear hn hp Kn Kp) | (refine hp _ _ _ ?_; clear hn hp Kn Kp) | (refine awp_cond rfl (fun hb => ?_) (fun hb => ?_) <;> (try simp only [decide_eq_true_eq, decide_eq_false_iff_not, Bool.not_eq_true', Bool.not_eq_false', Bool.true_eq_false, Bool.false_eq_true, beq_iff_eq, bne_iff_ne, bne_eq_false_iff_eq, beq_eq_false_iff_ne, gt_iff_lt, ge_iff_le, Int.reduceEq, Int.reduceNe, Int.reduceLT, Int.reduceLE, ne_eq, not_true_eq_false, not_false_eq_true] at hb)) | ((first | refine awg_split (fun hb => ?_) (fun hb => ?_) | refine awsg_split (fun hb => ?_) (fun hb => ?_)) <;> have hb0 := hb <;> (try simp only [decide_eq_true_eq, decide_eq_false_iff_not, Bool.not_eq_true', Bool.not_eq_false', Bool.true_eq_false, Bool.false_eq_true, beq_iff_eq, bne_iff_ne, bne_eq_false_iff_eq, beq_eq_false_iff_ne, gt_iff_lt, ge_iff_le, Int.reduceEq, Int.reduceNe, Int.reduceLT, Int.reduceLE, ne_eq, not_true_eq_false, not_false_eq_true] at hb0) <;> (try simp only [beq_true, beq_false, Bool.not_eq_true', Bool.not_eq_false'] at hb) <;> (simp only [go_sem, Nat.reduceAdd, Nat.reduceSub, Nat.reduceMul, Nat.reduceLeDiff, Nat.reduceLT, Nat.reduceEqDiff, Int.reduceToNat, Int.reduceAdd, Int.reduceMul, Int.reduceSub, Int.reduceLT, Int.reduceLE, Int.reduceEq, Int.reduceNeg, Int.reduceBEq, Int.reduceBNe, ↓reduceIte, reduceCtorEq, hb, hb0] <;> try simp (disch := omega) only [wrap_of])) | (refine And.intro ?_ ?_) | refine awp_skip ?_ | refine awp_ret ?_ | refine awp_exit ?_ | refine awp_label ?_ | refine awloop_step ?_ | fail)
    ((try simp only [go_sem, Nat.reduceAdd, Nat.reduceSub, Nat.reduceMul, Nat.reduceLeDiff, Nat.reduceLT, Nat.reduceEqDiff, Int.reduceToNat, Int.reduceAdd, Int.reduceMul, Int.reduceSub, Int.reduceLT, Int.reduceLE, Int.reduceEq, Int.reduceNeg, Int.reduceBEq, Int.reduceBNe, ↓reduceIte, reduceCtorEq]); (first | refine ⟨_, rfl, _, rfl, Fin.pure0 0 ?_⟩ | refine ⟨_, rfl, _, rfl, Fin.pure 1 ?_⟩); simp only [AV.low, List.map_cons, List.map_nil, aOne, aev, List.getElem?_cons_zero, List.getElem?_cons_succ, Option.getD_some, List.length_append, List.length_cons, List.length_nil, Nat.lt_irrefl, if_false]; try rfl)
    all_goals simp [ansC]
  | some us =>
    simp only [hks] at hv
    by_cases h12 : 12 < p.vars.length
    · have h12' : decide ((p.vars.length : Int) ≤ 12) = false := by simp; omega
      simp only [h12, if_true]
      (refine ARun.intro Try.func15 rfl Try.call15 Try.ntmps15 Try.results15 ?_; simp only [List.length_cons, List.length_nil, List.length_map, Nat.reduceAdd, Nat.reduceSub, List.replicate_succ, List.replicate_zero, List.cons_append, List.nil_append])
      repeat' (first | refine awp_seq ?_ | refine awp_block ?_ | ((first | refine awp_region_k fun Kn Kp hn hp => ?_ | refine awp_drawn_k (id := 7) [6] [] [.win [0], .win [0], .win [0], .win [0], .win [0], .win [0], .eff 0, .win [1]] 1 rfl (by as_aux_lemma => kernel_rfl) fun Kn Kp hn hp => ?_ | refine oge_intro (by assumption) ?_ | refine awe_intro (hv _) ?_ | refine awsf_intro (hv _) (fun hrun => ?_) | refine oge_intro (hv _) ?_ | refine awse_intro (hv _) (fun hrun => ?_) | refine pge_intro (hv _) (fun tm' => ?_)) <;> (simp only [go_sem, Nat.reduceAdd, Nat.reduceSub, Nat.reduceMul, Nat.reduceLeDiff, Nat.reduceLT, Nat.reduceEqDiff, Int.reduceToNat, Int.reduceAdd, Int.reduceMul, Int.reduceSub, Int.reduceLT, Int.reduceLE, Int.reduceEq, Int.reduceNeg, Int.reduceBEq, Int.reduceBNe, ↓reduceIte, reduceCtorEq, h12'] <;> try simp (disch := omega) only [wrap_of])) | (refine hn _ _ ?_; clear hn hp Kn Kp) | (refine hp _ _ _ ?_; clear hn hp Kn Kp) | (refine awp_cond rfl (fun hb => ?_) (fun hb => ?_) <;> (try simp only [decide_eq_true_eq, decide_eq_false_iff_not, Bool.not_eq_true', Bool.not_eq_false', Bool.true_eq_false, Bool.false_eq_true, beq_iff_eq, bne_iff_ne, bne_eq_false_iff_eq, beq_eq_false_iff_ne, gt_iff_lt, ge_iff_le, Int.reduceEq, Int.reduceNe, Int.reduceLT, Int.reduceLE, ne_eq, not_true_eq_false, not_false_eq_true] at hb)) | ((first | refine awg_split (fun hb => ?_) (fun hb => ?_) | refine awsg_split (fun hb => ?_) (fun hb => ?_)) <;> have hb0 := hb <;> (try simp only [decide_eq_true_eq, decide_eq_false_iff_not, Bool.not_eq_true', Bool.not_eq_false', Bool.true_eq_false, Bool.false_eq_true, beq_iff_eq, bne_iff_ne, bne_eq_false_iff_eq, beq_eq_false_iff_ne, gt_iff_lt, ge_iff_le, Int.reduceEq, Int.reduceNe, Int.reduceLT, Int.reduceLE, ne_eq, not_true_eq_false, not_false_eq_true] at hb0) <;> (try simp only [beq_true, beq_false, Bool.not_eq_true', Bool.not_eq_false'] at hb) <;> (simp only [go_sem, Nat.reduceAdd, Nat.reduceSub, Nat.reduceMul, Nat.reduceLeDiff, Nat.reduceLT, Nat.reduceEqDiff, Int.reduceToNat, Int.reduceAdd, Int.reduceMul, Int.reduceSub, Int.reduceLT, Int.reduceLE, Int.reduceEq, Int.reduceNeg, Int.reduceBEq, Int.reduceBNe, ↓reduceIte, reduceCtorEq, h12', hb, hb0] <;> try simp (disch := omega) only [wrap_of])) | (refine And.intro ?_ ?_) | refine awp_skip ?_ | refine awp_ret ?_ | refine awp_exit ?_ | refine awp_label ?_ | refine awloop_step ?_ | fail)
      ((try simp only [go_sem, Nat.reduceAdd, Nat.reduceSub, Nat.reduceMul, Nat.reduceLeDiff, Nat.reduceLT, Nat.reduceEqDiff, Int.reduceToNat, Int.reduceAdd, Int.reduceMul, Int.reduceSub, Int.reduceLT, Int.reduceLE, Int.reduceEq, Int.reduceNeg, Int.reduceBEq, Int.reduceBNe, ↓reduceIte, reduceCtorEq]); (first | refine ⟨_, rfl, _, rfl, Fin.pure0 0 ?_⟩ | refine ⟨_, rfl, _, rfl, Fin.pure 1 ?_⟩); simp only [AV.low, List.map_cons, List.map_nil, aOne, aev, List.getElem?_cons_zero, List.getElem?_cons_succ, Option.getD_some, List.length_append, List.length_cons, List.length_nil, Nat.lt_irrefl, if_false]; try rfl)
      all_goals simp [ansC]
    · have h12' : decide ((p.vars.length : Int) ≤ 12) = true := by simp; omega
      simp only [h12, if_false]
      have c0 := fun H0 => RHandler_run p.vars us hks p.on0 q0 H0
      have c1 := fun H0 => RHandler_run p.vars us hks p.on1 q1 H0
      have c2 := fun H0 => RHandler_run p.vars us hks p.on2 q2 H0
      have c3 := fun H0 => RHandler_run p.vars us hks p.on3 q3 H0
      have c4 := fun H0 => RHandler_run p.vars us hks p.on4 q4 H0
      unfold evS
      (refine ARun.intro Try.func15 rfl Try.call15 Try.ntmps15 Try.results15 ?_; simp only [List.length_cons, List.length_nil, List.length_map, Nat.reduceAdd, Nat.reduceSub, List.replicate_succ, List.replicate_zero, List.cons_append, List.nil_append])
      repeat' (first | refine awp_seq ?_ | refine awp_block ?_ | ((first | refine awp_region_k fun Kn Kp hn hp => ?_ | refine awp_drawn_k (id := 7) [6] [] [.win [0], .win [0], .win [0], .win [0], .win [0], .win [0], .eff 0, .win [1]] 1 rfl (by as_aux_lemma => kernel_rfl) fun Kn Kp hn hp => ?_ | refine oge_intro (by assumption) ?_ | refine awe_intro (hv _) ?_ | refine awsf_intro (hv _) (fun hrun => ?_) | refine oge_intro (hv _) ?_ | refine awse_intro (hv _) (fun hrun => ?_) | refine pge_intro (hv _) (fun tm' => ?_)) <;> (simp only [go_sem, Nat.reduceAdd, Nat.reduceSub, Nat.reduceMul, Nat.reduceLeDiff, Nat.reduceLT, Nat.reduceEqDiff, Int.reduceToNat, Int.reduceAdd, Int.reduceMul, Int.reduceSub, Int.reduceLT, Int.reduceLE, Int.reduceEq, Int.reduceNeg, Int.reduceBEq, Int.reduceBNe, ↓reduceIte, reduceCtorEq, h12'] <;> try simp (disch := omega) only [wrap_of])) | (refine hn _ _ ?_; clear hn hp Kn Kp) | (refine hp _ _ _ ?_; clear hn hp Kn Kp) | (refine awp_cond rfl (fun hb => ?_) (fun hb => ?_) <;> (try simp only [decide_eq_true_eq, decide_eq_false_iff_not, Bool.not_eq_true', Bool.not_eq_false', Bool.true_eq_false, Bool.false_eq_true, beq_iff_eq, bne_iff_ne, bne_eq_false_iff_eq, beq_eq_false_iff_ne, gt_iff_lt, ge_iff_le, Int.reduceEq, Int.reduceNe, Int.reduceLT, Int.reduceLE, ne_eq, not_true_eq_false, not_false_eq_true] at hb)) | ((first | refine awg_split (fun hb => ?_) (fun hb => ?_) | refine awsg_split (fun hb => ?_) (fun hb => ?_)) <;> have hb0 := hb <;> (try simp only [decide_eq_true_eq, decide_eq_false_iff_not, Bool.not_eq_true', Bool.not_eq_false', Bool.true_eq_false, Bool.false_eq_true, beq_iff_eq, bne_iff_ne, bne_eq_false_iff_eq, beq_eq_false_iff_ne, gt_iff_lt, ge_iff_le, Int.reduceEq, Int.reduceNe, Int.reduceLT, Int.reduceLE, ne_eq, not_true_eq_false, not_false_eq_true] at hb0) <;> (try simp only [beq_true, beq_false, Bool.not_eq_true', Bool.not_eq_false'] at hb) <;> (simp only [go_sem, Nat.reduceAdd, Nat.reduceSub, Nat.reduceMul, Nat.reduceLeDiff, Nat.reduceLT, Nat.reduceEqDiff, Int.reduceToNat, Int.reduceAdd, Int.reduceMul, Int.reduceSub, Int.reduceLT, Int.reduceLE, Int.reduceEq, Int.reduceNeg, Int.reduceBEq, Int.reduceBNe, ↓reduceIte, reduceCtorEq, h12', hb, hb0] <;> try simp (disch := omega) only [wrap_of])) | (refine And.intro ?_ ?_) | refine awp_skip ?_ | refine awp_ret ?_ | refine awp_exit ?_ | refine awp_label ?_ | refine awloop_step ?_ | fail)
      refine awp_loop 6 ?_
      repeat' (first | refine awp_seq ?_ | refine awp_block ?_ | ((first | refine awp_region_k fun Kn Kp hn hp => ?_ | refine awp_drawn_k (id := 7) [6] [] [.win [0], .win [0], .win [0], .win [0], .win [0], .win [0], .eff 0, .win [1]] 1 rfl (by as_aux_lemma => kernel_rfl) fun Kn Kp hn hp => ?_ | refine oge_intro (by assumption) ?_ | refine awe_intro (c0 _) ?_ | refine awsf_intro (c0 _) (fun hrun => ?_) | refine oge_intro (c0 _) ?_ | refine awse_intro (c0 _) (fun hrun => ?_) | refine pge_intro (c0 _) (fun tm' => ?_) | refine awe_intro (c1 _) ?_ | refine awsf_intro (c1 _) (fun hrun => ?_) | refine oge_intro (c1 _) ?_ | refine awse_intro (c1 _) (fun hrun => ?_) | refine pge_intro (c1 _) (fun tm' => ?_) | refine awe_intro (c2 _) ?_ | refine awsf_intro (c2 _) (fun hrun => ?_) | refine oge_intro (c2 _) ?_ | refine awse_intro (c2 _) (fun hrun => ?_) | refine pge_intro (c2 _) (fun tm' => ?_) | refine awe_intro (c3 _) ?_ | refine awsf_intro (c3 _) (fun hrun => ?_) | refine oge_intro (c3 _) ?_ | refine awse_intro (c3 _) (fun hrun => ?_) | refine pge_intro (c3 _) (fun tm' => ?_) | refine awe_intro (c4 _) ?_ | refine awsf_intro (c4 _) (fun hrun => ?_) | refine oge_intro (c4 _) ?_ | refine awse_intro (c4 _) (fun hrun => ?_) | refine pge_intro (c4 _) (fun tm' => ?_)) <;> (simp only [go_sem, Nat.reduceAdd, Nat.reduceSub, Nat.reduceMul, Nat.reduceLeDiff, Nat.reduceLT, Nat.reduceEqDiff, Int.reduceToNat, Int.reduceAdd, Int.reduceMul, Int.reduceSub, Int.reduceLT, Int.reduceLE, Int.reduceEq, Int.reduceNeg, Int.reduceBEq, Int.reduceBNe, ↓reduceIte, reduceCtorEq] <;> try simp (disch := omega) only [wrap_of])) | (refine hn _ _ ?_; clear hn hp Kn Kp) | (refine hp _ _ _ ?_; clear hn hp Kn Kp) | (refine awp_cond rfl (fun hb => ?_) (fun hb => ?_) <;> (try simp only [decide_eq_true_eq, decide_eq_false_iff_not, Bool.not_eq_true', Bool.not_eq_false', Bool.true_eq_false, Bool.false_eq_true, beq_iff_eq, bne_iff_ne, bne_eq_false_iff_eq, beq_eq_false_iff_ne, gt_iff_lt, ge_iff_le, Int.reduceEq, Int.reduceNe, Int.reduceLT, Int.reduceLE, ne_eq, not_true_eq_false, not_false_eq_true] at hb)) | ((first | refine awg_split (fun hb => ?_) (fun hb => ?_) | refine awsg_split (fun hb => ?_) (fun hb => ?_)) <;> have hb0 := hb <;> (try simp only [decide_eq_true_eq, decide_eq_false_iff_not, Bool.not_eq_true', Bool.not_eq_false', Bool.true_eq_false, Bool.false_eq_true, beq_iff_eq, bne_iff_ne, bne_eq_false_iff_eq, beq_eq_false_iff_ne, gt_iff_lt, ge_iff_le, Int.reduceEq, Int.reduceNe, Int.reduceLT, Int.reduceLE, ne_eq, not_true_eq_false, not_false_eq_true] at hb0) <;> (try simp only [beq_true, beq_false, Bool.not_eq_true', Bool.not_eq_false'] at hb) <;> (simp only [go_sem, Nat.reduceAdd, Nat.reduceSub, Nat.reduceMul, Nat.reduceLeDiff, Nat.reduceLT, Nat.reduceEqDiff, Int.reduceToNat, Int.reduceAdd, Int.reduceMul, Int.reduceSub, Int.reduceLT, Int.reduceLE, Int.reduceEq, Int.reduceNeg, Int.reduceBEq, Int.reduceBNe, ↓reduceIte, reduceCtorEq, hb, hb0] <;> try simp (disch := omega) only [wrap_of])) | (refine And.intro ?_ ?_) | refine awp_skip ?_ | refine awp_ret ?_ | refine awp_exit ?_ | refine awp_label ?_ | refine awloop_step ?_ | fail)
      all_goals
        ((try simp only [go_sem, Nat.reduceAdd, Nat.reduceSub, Nat.reduceMul, Nat.reduceLeDiff, Nat.reduceLT, Nat.reduceEqDiff, Int.reduceToNat, Int.reduceAdd, Int.reduceMul, Int.reduceSub, Int.reduceLT, Int.reduceLE, Int.reduceEq, Int.reduceNeg, Int.reduceBEq, Int.reduceBNe, ↓reduceIte, reduceCtorEq]); (first | refine ⟨_, rfl, _, rfl, Fin.pure0 0 ?_⟩ | refine ⟨_, rfl, _, rfl, Fin.pure 1 ?_⟩); simp only [AV.low, List.map_cons, List.map_nil, aOne, aev, List.getElem?_cons_zero, List.getElem?_cons_succ, Option.getD_some, List.length_append, List.length_cons, List.length_nil, Nat.lt_irrefl, if_false]; try rfl)
        simp [ansC, *]

def usableB (l : List Vr) (a b : Ex) : Bool := decide (l.length ≤ 30) && decide (size a 60 + size b 60 ≤ 59)
theorem usable_run (l : List Vr) (a b : Ex) (H0 : List AObj) : ARun Try.prog 18 [.rs 5 (l.map encV), .ag (cE a), .ag (cE b)] H0 (.ret (.b (usableB l a b)) H0) := by
  have ka := fun H0 => Size_run a 60 H0 (by omega) (by omega)
  have kb := fun H0 => Size_run b 60 H0 (by omega) (by omega)
  have ba := size_bd a 60
  have bb := size_bd b 60
  have hdl : decide (l.length ≤ 30) = decide ((l.length : Int) ≤ 30) := decide_eq_decide.2 (by omega)
  unfold usableB
  rw [hdl]
  by_cases h30 : (l.length : Int) ≤ 30
  · (refine ARun.intro Try.func18 rfl Try.call18 Try.ntmps18 Try.results18 ?_; simp only [List.length_cons, List.length_nil, List.length_map, Nat.reduceAdd, Nat.reduceSub, List.replicate_succ, List.replicate_zero, List.cons_append, List.nil_append])
    repeat' (first | refine awp_seq ?_ | refine awp_block ?_ | ((first | refine awp_region_k fun Kn Kp hn hp => ?_ | refine awp_drawn_k (id := 1) [5, 7] [] [.win [0], .win [0], .win [0], .win [0], .win [0], .eff 0, .win [0, 1], .eff 1, .win [2], .win [2], .win [2], .win [2]] 2 rfl (by as_aux_lemma => kernel_rfl) fun Kn Kp hn hp => ?_ | refine oge_intro (by assumption) ?_ | refine awe_intro (ka _) ?_ | refine awsf_intro (ka _) (fun hrun => ?_) | refine oge_intro (ka _) ?_ | refine awse_intro (ka _) (fun hrun => ?_) | refine pge_intro (ka _) (fun tm' => ?_) | refine awe_intro (kb _) ?_ | refine awsf_intro (kb _) (fun hrun => ?_) | refine oge_intro (kb _) ?_ | refine awse_intro (kb _) (fun hrun => ?_) | refine pge_intro (kb _) (fun tm' => ?_)) <;> (simp only [go_sem, Nat.reduceAdd, Nat.reduceSub, Nat.reduceMul, Nat.reduceLeDiff, Nat.reduceLT, Nat.reduceEqDiff, Int.reduceToNat, Int.reduceAdd, Int.reduceMul, Int.reduceSub, Int.reduceLT, Int.reduceLE, Int.reduceEq, Int.reduceNeg, Int.reduceBEq, Int.reduceBNe, ↓reduceIte, reduceCtorEq, h30] <;> try simp (disch := omega) only [wrap_of])) | (refine hn _ _ ?_; clear hn hp Kn Kp) | (refine hp _ _ _ ?_; clear hn hp Kn Kp) | (refine awp_cond rfl (fun hb => ?_) (fun hb => ?_) <;> (try simp only [decide_eq_true_eq, decide_eq_false_iff_not, Bool.not_eq_true', Bool.not_eq_false', Bool.true_eq_false, Bool.false_eq_true, beq_iff_eq, bne_iff_ne, bne_eq_false_iff_eq, beq_eq_false_iff_ne, gt_iff_lt, ge_iff_le, Int.reduceEq, Int.reduceNe, Int.reduceLT, Int.reduceLE, ne_eq, not_true_eq_false, not_false_eq_true] at hb)) | ((first | refine awg_split (fun hb => ?_) (fun hb => ?_) | refine awsg_split (fun hb => ?_) (fun hb => ?_)) <;> have hb0 := hb <;> (try simp only [decide_eq_true_eq, decide_eq_false_iff_not, Bool.not_eq_true', Bool.not_eq_false', Bool.true_eq_false, Bool.false_eq_true, beq_iff_eq, bne_iff_ne, bne_eq_false_iff_eq, beq_eq_false_iff_ne, gt_iff_lt, ge_iff_le, Int.reduceEq, Int.reduceNe, Int.reduceLT, Int.reduceLE, ne_eq, not_true_eq_false, not_false_eq_true] at hb0) <;> (try simp only [beq_true, beq_false, Bool.not_eq_true', Bool.not_eq_false'] at hb) <;> (simp only [go_sem, Nat.reduceAdd, Nat.reduceSub, Nat.reduceMul, Nat.reduceLeDiff, Nat.reduceLT, Nat.reduceEqDiff, Int.reduceToNat, Int.reduceAdd, Int.reduceMul, Int.reduceSub, Int.reduceLT, Int.reduceLE, Int.reduceEq, Int.reduceNeg, Int.reduceBEq, Int.reduceBNe, ↓reduceIte, reduceCtorEq, h30, hb, hb0] <;> try simp (disch := omega) only [wrap_of])) | (refine And.intro ?_ ?_) | refine awp_skip ?_ | refine awp_ret ?_ | refine awp_exit ?_ | refine awp_label ?_ | refine awloop_step ?_ | fail)
    ((try simp only [go_sem, Nat.reduceAdd, Nat.reduceSub, Nat.reduceMul, Nat.reduceLeDiff, Nat.reduceLT, Nat.reduceEqDiff, Int.reduceToNat, Int.reduceAdd, Int.reduceMul, Int.reduceSub, Int.reduceLT, Int.reduceLE, Int.reduceEq, Int.reduceNeg, Int.reduceBEq, Int.reduceBNe, ↓reduceIte, reduceCtorEq]); (first | refine ⟨_, rfl, _, rfl, Fin.pure0 0 ?_⟩ | refine ⟨_, rfl, _, rfl, Fin.pure 1 ?_⟩); simp only [AV.low, List.map_cons, List.map_nil, aOne, aev, List.getElem?_cons_zero, List.getElem?_cons_succ, Option.getD_some, List.length_append, List.length_cons, List.length_nil, Nat.lt_irrefl, if_false]; try rfl)
    all_goals simp [h30]
  · (refine ARun.intro Try.func18 rfl Try.call18 Try.ntmps18 Try.results18 ?_; simp only [List.length_cons, List.length_nil, List.length_map, Nat.reduceAdd, Nat.reduceSub, List.replicate_succ, List.replicate_zero, List.cons_append, List.nil_append])
    repeat' (first | refine awp_seq ?_ | refine awp_block ?_ | ((first | refine awp_region_k fun Kn Kp hn hp => ?_ | refine awp_drawn_k (id := 1) [5, 7] [] [.win [0], .win [0], .win [0], .win [0], .win [0], .eff 0, .win [0, 1], .eff 1, .win [2], .win [2], .win [2], .win [2]] 2 rfl (by as_aux_lemma => kernel_rfl) fun Kn Kp hn hp => ?_ | refine oge_intro (by assumption) ?_) <;> (simp only [go_sem, Nat.reduceAdd, Nat.reduceSub, Nat.reduceMul, Nat.reduceLeDiff, Nat.reduceLT, Nat.reduceEqDiff, Int.reduceToNat, Int.reduceAdd, Int.reduceMul, Int.reduceSub, Int.reduceLT, Int.reduceLE, Int.reduceEq, Int.reduceNeg, Int.reduceBEq, Int.reduceBNe, ↓reduceIte, reduceCtorEq, h30] <;> try simp (disch := omega) only [wrap_of])) | (refine hn _ _ ?_; clear hn hp Kn Kp) | (refine hp _ _ _ ?_; clear hn hp Kn Kp) | (refine awp_cond rfl (fun hb => ?_) (fun hb => ?_) <;> (try simp only [decide_eq_true_eq, decide_eq_false_iff_not, Bool.not_eq_true', Bool.not_eq_false', Bool.true_eq_false, Bool.false_eq_true, beq_iff_eq, bne_iff_ne, bne_eq_false_iff_eq, beq_eq_false_iff_ne, gt_iff_lt, ge_iff_le, Int.reduceEq, Int.reduceNe, Int.reduceLT, Int.reduceLE, ne_eq, not_true_eq_false, not_false_eq_true] at hb)) | ((first | refine awg_split (fun hb => ?_) (fun hb => ?_) | refine awsg_split (fun hb => ?_) (fun hb => ?_)) <;> have hb0 := hb <;> (try simp only [decide_eq_true_eq, decide_eq_false_iff_not, Bool.not_eq_true', Bool.not_eq_false', Bool.true_eq_false, Bool.false_eq_true, beq_iff_eq, bne_iff_ne, bne_eq_false_iff_eq, beq_eq_false_iff_ne, gt_iff_lt, ge_iff_le, Int.reduceEq, Int.reduceNe, Int.reduceLT, Int.reduceLE, ne_eq, not_true_eq_false, not_false_eq_true] at hb0) <;> (try simp only [beq_true, beq_false, Bool.not_eq_true', Bool.not_eq_false'] at hb) <;> (simp only [go_sem, Nat.reduceAdd, Nat.reduceSub, Nat.reduceMul, Nat.reduceLeDiff, Nat.reduceLT, Nat.reduceEqDiff, Int.reduceToNat, Int.reduceAdd, Int.reduceMul, Int.reduceSub, Int.reduceLT, Int.reduceLE, Int.reduceEq, Int.reduceNeg, Int.reduceBEq, Int.reduceBNe, ↓reduceIte, reduceCtorEq, h30, hb, hb0] <;> try simp (disch := omega) only [wrap_of])) | (refine And.intro ?_ ?_) | refine awp_skip ?_ | refine awp_ret ?_ | refine awp_exit ?_ | refine awp_label ?_ | refine awloop_step ?_ | fail)
    ((try simp only [go_sem, Nat.reduceAdd, Nat.reduceSub, Nat.reduceMul, Nat.reduceLeDiff, Nat.reduceLT, Nat.reduceEqDiff, Int.reduceToNat, Int.reduceAdd, Int.reduceMul, Int.reduceSub, Int.reduceLT, Int.reduceLE, Int.reduceEq, Int.reduceNeg, Int.reduceBEq, Int.reduceBNe, ↓reduceIte, reduceCtorEq]); (first | refine ⟨_, rfl, _, rfl, Fin.pure0 0 ?_⟩ | refine ⟨_, rfl, _, rfl, Fin.pure 1 ?_⟩); simp only [AV.low, List.map_cons, List.map_nil, aOne, aev, List.getElem?_cons_zero, List.getElem?_cons_succ, Option.getD_some, List.length_append, List.length_cons, List.length_nil, Nat.lt_irrefl, if_false]; try rfl)
    all_goals simp [h30]
end Go.Proofs.Ytkchihkmhojdnaa.Y

/- Plain laws: errors of operations; handlers alone. -/
set_option linter.unusedVariables false
namespace Go.Proofs.Ytkchihkmhojdnaa.AL
def unOf : Except Int Un → Un
  | .ok u => u
  | .error _ => ⟨0, 0, 0⟩
def errOf : Except Int Un → Int
  | .ok _ => 0
  | .error x => x
theorem ansU_eq (r : Except Int Un) : ansU r = .tup [.ag (cU (unOf r)), .i (errOf r)] := by cases r <;> rfl
theorem size_small {a b : Ex} (h : size a 60 + size b 60 ≤ 59) : nodes a + nodes b ≤ 59 := by
  have ha := size_nodes a 60
  have hb := size_nodes b 60
  have h1 := size_bd a 60
  have h2 := size_bd b 60
  omega
theorem nodes_two (op : Int) (a b : Ex) : nodes (.mk op 0 0 [a, b]) = 1 + (nodes a + (nodes b + 0)) := by simp [nodes, nodesL]
/-- The law of errors. -/
theorem errs_law (l : List Vr) (a b : Ex) (op : Int) (h : nodes a + nodes b ≤ 59) : errOf (inferS l a) = 0 ∨ (errOf (inferS l (.mk op 0 0 [a, b])) = errOf (inferS l a) ∧ errOf (inferS l (.mk op 0 0 [b, a])) ≠ 0) := by
  unfold inferS
  cases ksL l with
  | none => exact .inr ⟨rfl, by simp [errOf]⟩
  | some us =>
    simp only
    by_cases h12 : 12 < l.length
    · rw [if_pos h12, if_pos h12, if_pos h12]; exact .inr ⟨rfl, by simp [errOf]⟩
    · rw [if_neg h12, if_neg h12, if_neg h12]
      rw [nodes_two, nodes_two, if_neg (by omega), if_neg (by omega), if_neg (by omega)]
      cases ha : inf us a with
      | ok u => exact .inl rfl
      | error x =>
        refine .inr ⟨?_, ?_⟩
        · rw [inf_eq]; simp only [Ex.kids, infL, ha, errOf]
        · rw [inf_eq]
          simp only [Ex.kids, infL, ha]
          have hx := inf_err us a x ha
          cases hb : inf us b with
          | ok u => simp only [errOf]; omega
          | error y => have := inf_err us b y hb; simp only [errOf]; omega

/-! ### handlers alone -/
def alone (p : Prg) (k : Nat) : Prg :=
  ⟨⟨#[]⟩, p.vars, if k = 0 then p.on0 else [], if k = 1 then p.on1 else [], if k = 2 then p.on2 else [], if k = 3 then p.on3 else [], if k = 4 then p.on4 else [], 0, 0⟩
theorem hand_nil (us : List Un) : handS us [] = 0 := by simp [handS, manyL, smSL, stSL]
def onK (p : Prg) (k : Nat) : List St := if k = 0 then p.on0 else if k = 1 then p.on1 else if k = 2 then p.on2 else if k = 3 then p.on3 else p.on4
/-- What the law of handlers looks for. -/
theorem hands_law (p : Prg) :
    ((checkS (alone p 0)).2 ≠ 0 ∧ (checkS p).2 = (checkS (alone p 0)).2 ∧ (checkS p).1 = 0 ∧ (checkS (alone p 0)).1 = 0) ∨
    (checkS (alone p 0) = (-1, 0) ∧ (checkS (alone p 1)).2 ≠ 0 ∧ (checkS p).2 = (checkS (alone p 1)).2 ∧ (checkS p).1 = 1 ∧ (checkS (alone p 1)).1 = 1) ∨
    (checkS (alone p 0) = (-1, 0) ∧ checkS (alone p 1) = (-1, 0) ∧ (checkS (alone p 2)).2 ≠ 0 ∧ (checkS p).2 = (checkS (alone p 2)).2 ∧ (checkS p).1 = 2 ∧ (checkS (alone p 2)).1 = 2) ∨
    (checkS (alone p 0) = (-1, 0) ∧ checkS (alone p 1) = (-1, 0) ∧ checkS (alone p 2) = (-1, 0) ∧ (checkS (alone p 3)).2 ≠ 0 ∧ (checkS p).2 = (checkS (alone p 3)).2 ∧ (checkS p).1 = 3 ∧ (checkS (alone p 3)).1 = 3) ∨
    (checkS (alone p 0) = (-1, 0) ∧ checkS (alone p 1) = (-1, 0) ∧ checkS (alone p 2) = (-1, 0) ∧ checkS (alone p 3) = (-1, 0) ∧ (checkS (alone p 4)).2 ≠ 0 ∧ (checkS p).2 = (checkS (alone p 4)).2 ∧ (checkS p).1 = 4 ∧ (checkS (alone p 4)).1 = 4) ∨
    (checkS (alone p 0) = (-1, 0) ∧ checkS (alone p 1) = (-1, 0) ∧ checkS (alone p 2) = (-1, 0) ∧ checkS (alone p 3) = (-1, 0) ∧ checkS (alone p 4) = (-1, 0) ∧ checkS p = (-1, 0)) := by
  unfold checkS
  have hv : ∀ k, (alone p k).vars = p.vars := fun k => rfl
  simp only [hv]
  cases ksL p.vars with
  | none => left; simp
  | some us =>
    simp only
    by_cases h12 : 12 < p.vars.length
    · left; simp [h12]
    · simp only [h12, if_false]
      have e0 : evS us (alone p 0) = if handS us p.on0 ≠ 0 then (0, handS us p.on0) else (-1, 0) := by simp [evS, alone, hand_nil]
      have e1 : evS us (alone p 1) = if handS us p.on1 ≠ 0 then (1, handS us p.on1) else (-1, 0) := by simp [evS, alone, hand_nil]
      have e2 : evS us (alone p 2) = if handS us p.on2 ≠ 0 then (2, handS us p.on2) else (-1, 0) := by simp [evS, alone, hand_nil]
      have e3 : evS us (alone p 3) = if handS us p.on3 ≠ 0 then (3, handS us p.on3) else (-1, 0) := by simp [evS, alone, hand_nil]
      have e4 : evS us (alone p 4) = if handS us p.on4 ≠ 0 then (4, handS us p.on4) else (-1, 0) := by simp [evS, alone, hand_nil]
      rw [e0, e1, e2, e3, e4]
      unfold evS
      by_cases h0 : handS us p.on0 = 0
      · by_cases h1 : handS us p.on1 = 0
        · by_cases h2 : handS us p.on2 = 0
          · by_cases h3 : handS us p.on3 = 0
            · by_cases h4 : handS us p.on4 = 0
              · simp [h0, h1, h2, h3, h4]
              · simp [h0, h1, h2, h3, h4]
            · simp [h0, h1, h2, h3]
          · simp [h0, h1, h2]
        · simp [h0, h1]
      · simp [h0]
theorem alone_ok {p : Prg} (h : okP p) (k : Nat) : okP (alone p k) := by
  obtain ⟨h0, h1, h2, h3, h4⟩ := h
  have z : manyL [] ≤ 900000 ∧ fineL [] := ⟨by simp [manyL], trivial⟩
  refine ⟨?_, ?_, ?_, ?_, ?_⟩ <;> simp only [alone] <;> split <;> assumption

/-! ### names -/
def renamed (p : Prg) (name : ByteArray) (low high first : Int) : Prg :=
  ⟨name, p.vars.map (fun v => ⟨name, v.unit, low, high, first⟩), p.on0, p.on1, p.on2, p.on3, p.on4, low, high⟩
theorem ksL_map (name : ByteArray) (low high first : Int) : ∀ l : List Vr, ksL (l.map (fun v => ⟨name, v.unit, low, high, first⟩)) = ksL l
  | [] => rfl
  | v :: l => by simp only [List.map_cons, ksL, ksL_map name low high first l]
theorem names_law (p : Prg) (name : ByteArray) (low high first : Int) : checkS (renamed p name low high first) = checkS p := by
  unfold checkS
  simp only [renamed, ksL_map, List.length_map]
  rfl
theorem renamed_ok {p : Prg} (h : okP p) (name : ByteArray) (low high first : Int) : okP (renamed p name low high first) := h
end Go.Proofs.Ytkchihkmhojdnaa.AL

namespace Go.Proofs.Ytkchihkmhojdnaa.Y
open Go.Proofs.Ytkchihkmhojdnaa.AL Go.Proofs Go
abbrev bk (H : Type) (d : DataW H) : Nat := Go.Proofs.Ytkchihkmhojdnaa.Rows.uptoBulk d
abbrev bkl (H : Type) (d : List (DataW H)) : Nat := Go.Proofs.Ytkchihkmhojdnaa.Rows.uptoBulkAll d
theorem bulk : Bulk bk bkl where
  lit := fun H l => by cases l <;> simp [bk, Go.Proofs.Ytkchihkmhojdnaa.Rows.uptoBulk]
  str := fun H b => by simp [bk, Go.Proofs.Ytkchihkmhojdnaa.Rows.uptoBulk]
  nil := fun H => by simp [bk, Go.Proofs.Ytkchihkmhojdnaa.Rows.uptoBulk]
  slice := fun H es sp => by simp [bk, bkl, Go.Proofs.Ytkchihkmhojdnaa.Rows.uptoBulk]
  agg := fun H ps => by simp [bk, bkl, Go.Proofs.Ytkchihkmhojdnaa.Rows.uptoBulk]
  lnil := fun H => by simp [bkl, Go.Proofs.Ytkchihkmhojdnaa.Rows.uptoBulkAll]
  lcons := fun H d l => by simp [bk, bkl, Go.Proofs.Ytkchihkmhojdnaa.Rows.uptoBulkAll]
theorem laidOut : laidOutB Try.prog = true := by kernel_rfl
theorem own : ownKnob Try.prog.godebug = none := by kernel_rfl
theorem len1 {α : Type} {l : List α} (h : l.length = 1) : ∃ a, l = [a] := by
  match l, h with | [a], _ => exact ⟨a, rfl⟩
theorem bulk_bound {H : Type} {l : List (DataW H)} (hk : Go.Proofs.Ytkchihkmhojdnaa.Rows.uptoSmall H l = true) : bkl H l ≤ 1048576 := of_decide_eq_true hk
end Go.Proofs.Ytkchihkmhojdnaa.Y

set_option maxRecDepth 20000
set_option linter.unusedVariables false
set_option linter.unusedSimpArgs false
namespace Go.Proofs.Ytkchihkmhojdnaa.Y
open Go.Proofs.Ytkchihkmhojdnaa.AL Go.Proofs Go
theorem rdE : ∀ n, Rd Try.prog bk n 29 encE nodes (fun _ => True) := by
  intro n
  induction n with
  | zero => exact Rd.zero
  | succ n ih =>
    intro H e w sp hd fuel cs x hn h hlt
    obtain ⟨xs, m, hm, hc, hx, hb, hf, hl⟩ := trod_fields bulk Try.underlying29 hn h hlt
    rw [show Try.prog.cellsOf 29 = 4 from by kernel_rfl] at hc
    obtain ⟨x0, x1, x2, x3, rfl⟩ : ∃ x0 x1 x2 x3, xs = [x0, x1, x2, x3] := by
      match xs, hx with | [x0, x1, x2, x3], _ => exact ⟨x0, x1, x2, x3, rfl⟩
    obtain ⟨c0, c1, c2, c3, rfl⟩ : ∃ c0 c1 c2 c3, cs = [c0, c1, c2, c3] := by
      match cs, hc with | [c0, c1, c2, c3], _ => exact ⟨c0, c1, c2, c3, rfl⟩
    simp only [List.map_cons, List.map_nil, bulk.lcons, bulk.lnil] at hb
    have f0 := hf 0 _ rfl
    have f1 := hf 1 _ rfl
    have f2 := hf 2 _ rfl
    have f3 := hf 3 _ rfl
    simp only [show Try.prog.cellsOf 27 = 1 from by kernel_rfl, show Try.prog.cellsOf 3 = 1 from by kernel_rfl, List.drop_zero, List.drop_succ_cons, List.take_succ_cons, List.take_zero, List.getElem?_cons_zero, List.getElem?_cons_succ] at f0 f1 f2 f3
    obtain ⟨a0, r0, m0, p0⟩ := (Rd.int bulk (n := n) Try.underlying3) hm f0 (hl x0 (by simp))
    obtain ⟨a1, r1, m1, p1⟩ := (Rd.int bulk (n := n) Try.underlying3) hm f1 (hl x1 (by simp))
    obtain ⟨a2, r2, m2, p2⟩ := (Rd.int bulk (n := n) Try.underlying3) hm f2 (hl x2 (by simp))
    obtain ⟨a3, r3, m3, p3⟩ := (Rd.le (Rd.slice bulk (n := n) Try.underlying27 (by kernel_rfl) (by decide) ih encE_len) (Nat.le_succ n)) hm f3 (hl x3 (by simp))
    (try dsimp only at m0); (try dsimp only at m1); (try dsimp only at m2); (try dsimp only at m3)
    refine ⟨.mk a0 a1 a2 a3, ?_, ?_, trivial⟩
    · rw [encE_eq]; exact r0.append (r1.append (r2.append (r3)))
    · rw [nodes_eq]; simp only [Ex.kids, nodesL_sum]; omega
theorem rdS : ∀ n, Rd Try.prog bk n 59 encS wS (fun _ => True) := by
  intro n
  induction n with
  | zero => exact Rd.zero
  | succ n ih =>
    intro H e w sp hd fuel cs x hn h hlt
    obtain ⟨xs, m, hm, hc, hx, hb, hf, hl⟩ := trod_fields bulk Try.underlying59 hn h hlt
    rw [show Try.prog.cellsOf 59 = 13 from by kernel_rfl] at hc
    obtain ⟨x0, x1, x2, x3, x4, x5, x6, rfl⟩ : ∃ x0 x1 x2 x3 x4 x5 x6, xs = [x0, x1, x2, x3, x4, x5, x6] := by
      match xs, hx with | [x0, x1, x2, x3, x4, x5, x6], _ => exact ⟨x0, x1, x2, x3, x4, x5, x6, rfl⟩
    obtain ⟨c0, c1, c2, c3, c4, c5, c6, c7, c8, c9, c10, c11, c12, rfl⟩ : ∃ c0 c1 c2 c3 c4 c5 c6 c7 c8 c9 c10 c11 c12, cs = [c0, c1, c2, c3, c4, c5, c6, c7, c8, c9, c10, c11, c12] := by
      match cs, hc with | [c0, c1, c2, c3, c4, c5, c6, c7, c8, c9, c10, c11, c12], _ => exact ⟨c0, c1, c2, c3, c4, c5, c6, c7, c8, c9, c10, c11, c12, rfl⟩
    simp only [List.map_cons, List.map_nil, bulk.lcons, bulk.lnil] at hb
    have f0 := hf 0 _ rfl
    have f1 := hf 1 _ rfl
    have f2 := hf 2 _ rfl
    have f3 := hf 3 _ rfl
    have f4 := hf 4 _ rfl
    have f5 := hf 5 _ rfl
    have f6 := hf 6 _ rfl
    simp only [show Try.prog.cellsOf 23 = 1 from by kernel_rfl, show Try.prog.cellsOf 29 = 4 from by kernel_rfl, show Try.prog.cellsOf 3 = 1 from by kernel_rfl, List.drop_zero, List.drop_succ_cons, List.take_succ_cons, List.take_zero, List.getElem?_cons_zero, List.getElem?_cons_succ] at f0 f1 f2 f3 f4 f5 f6
    obtain ⟨a0, r0, m0, p0⟩ := (Rd.int bulk (n := n) Try.underlying3) hm f0 (hl x0 (by simp))
    obtain ⟨a1, r1, m1, p1⟩ := (Rd.int bulk (n := n) Try.underlying3) hm f1 (hl x1 (by simp))
    obtain ⟨a2, r2, m2, p2⟩ := (Rd.int bulk (n := n) Try.underlying3) hm f2 (hl x2 (by simp))
    obtain ⟨a3, r3, m3, p3⟩ := (rdE n) hm f3 (hl x3 (by simp))
    obtain ⟨a4, r4, m4, p4⟩ := (rdE n) hm f4 (hl x4 (by simp))
    obtain ⟨a5, r5, m5, p5⟩ := (Rd.le (Rd.slice bulk (n := n) Try.underlying23 (by kernel_rfl) (by decide) ih encS_len) (Nat.le_succ n)) hm f5 (hl x5 (by simp))
    obtain ⟨a6, r6, m6, p6⟩ := (Rd.le (Rd.slice bulk (n := n) Try.underlying23 (by kernel_rfl) (by decide) ih encS_len) (Nat.le_succ n)) hm f6 (hl x6 (by simp))
    (try dsimp only at m0); (try dsimp only at m1); (try dsimp only at m2); (try dsimp only at m3); (try dsimp only at m4); (try dsimp only at m5); (try dsimp only at m6)
    refine ⟨.mk a0 a1 a2 a3 a4 a5 a6, ?_, ?_, trivial⟩
    · rw [encS_eq]; rw [encE_eq] at r3 r4; exact r0.append (r1.append (r2.append (r3.append (r4.append (r5.append (r6))))))
    · rw [wS_eq]; simp only [St.a, St.b, St.thn, St.els, wSL_sum]; omega
theorem rdV : ∀ n, Rd Try.prog bk n 51 encV wV (fun _ => True) := by
  intro n
  induction n with
  | zero => exact Rd.zero
  | succ n ih =>
    intro H e w sp hd fuel cs x hn h hlt
    obtain ⟨xs, m, hm, hc, hx, hb, hf, hl⟩ := trod_fields bulk Try.underlying51 hn h hlt
    rw [show Try.prog.cellsOf 51 = 5 from by kernel_rfl] at hc
    obtain ⟨x0, x1, x2, x3, x4, rfl⟩ : ∃ x0 x1 x2 x3 x4, xs = [x0, x1, x2, x3, x4] := by
      match xs, hx with | [x0, x1, x2, x3, x4], _ => exact ⟨x0, x1, x2, x3, x4, rfl⟩
    obtain ⟨c0, c1, c2, c3, c4, rfl⟩ : ∃ c0 c1 c2 c3 c4, cs = [c0, c1, c2, c3, c4] := by
      match cs, hc with | [c0, c1, c2, c3, c4], _ => exact ⟨c0, c1, c2, c3, c4, rfl⟩
    simp only [List.map_cons, List.map_nil, bulk.lcons, bulk.lnil] at hb
    have f0 := hf 0 _ rfl
    have f1 := hf 1 _ rfl
    have f2 := hf 2 _ rfl
    have f3 := hf 3 _ rfl
    have f4 := hf 4 _ rfl
    simp only [show Try.prog.cellsOf 3 = 1 from by kernel_rfl, show Try.prog.cellsOf 9 = 1 from by kernel_rfl, List.drop_zero, List.drop_succ_cons, List.take_succ_cons, List.take_zero, List.getElem?_cons_zero, List.getElem?_cons_succ] at f0 f1 f2 f3 f4
    obtain ⟨a0, r0, m0, p0⟩ := (Rd.str bulk (n := n) Try.underlying9) hm f0 (hl x0 (by simp))
    obtain ⟨a1, r1, m1, p1⟩ := (Rd.int bulk (n := n) Try.underlying3) hm f1 (hl x1 (by simp))
    obtain ⟨a2, r2, m2, p2⟩ := (Rd.int bulk (n := n) Try.underlying3) hm f2 (hl x2 (by simp))
    obtain ⟨a3, r3, m3, p3⟩ := (Rd.int bulk (n := n) Try.underlying3) hm f3 (hl x3 (by simp))
    obtain ⟨a4, r4, m4, p4⟩ := (Rd.int bulk (n := n) Try.underlying3) hm f4 (hl x4 (by simp))
    (try dsimp only at m0); (try dsimp only at m1); (try dsimp only at m2); (try dsimp only at m3); (try dsimp only at m4)
    refine ⟨⟨a0, a1, a2, a3, a4⟩, ?_, ?_, trivial⟩
    · exact r0.append (r1.append (r2.append (r3.append (r4))))
    · simp only [wV]; omega
end Go.Proofs.Ytkchihkmhojdnaa.Y

set_option maxRecDepth 20000
set_option linter.unusedVariables false
set_option linter.unusedSimpArgs false
namespace Go.Proofs.Ytkchihkmhojdnaa.Y
open Go.Proofs.Ytkchihkmhojdnaa.AL Go.Proofs Go
abbrev On5 := List St × List St × List St × List St × List St
def encOn (o : On5) : List PV := [.rs 13 (o.1.map encS), .rs 13 (o.2.1.map encS), .rs 13 (o.2.2.1.map encS), .rs 13 (o.2.2.2.1.map encS), .rs 13 (o.2.2.2.2.map encS)]
def wOn (o : On5) : Nat := wSL o.1 + wSL o.2.1 + wSL o.2.2.1 + wSL o.2.2.2.1 + wSL o.2.2.2.2
theorem rdSs (n : Nat) : Rd Try.prog bk n 23 (fun l : List St => [.rs 13 (l.map encS)]) (fun l => sumM wS l + 1) (fun l => ∀ a ∈ l, True) :=
  Rd.le (Rd.slice bulk (n := n) Try.underlying23 (by kernel_rfl) (by decide) (rdS n) encS_len) (Nat.le_succ n)
theorem rdVs (n : Nat) : Rd Try.prog bk n 22 (fun l : List Vr => [.rs 5 (l.map encV)]) (fun l => sumM wV l + 1) (fun l => ∀ a ∈ l, True) :=
  Rd.le (Rd.slice bulk (n := n) Try.underlying22 (by kernel_rfl) (by decide) (rdV n) (fun _ => rfl)) (Nat.le_succ n)
theorem rdOn : ∀ n, Rd Try.prog bk n 24 encOn wOn (fun _ => True) := by
  intro n
  cases n with
  | zero => exact Rd.zero
  | succ n =>
    intro H e w sp hd fuel cs x hn h hlt
    obtain ⟨xs, m, hm, hc, hx, hb, hf, hl⟩ := trod_items bulk Try.underlying24 hn h hlt
    rw [show Try.prog.cellsOf 24 = 5 from by kernel_rfl] at hc
    obtain ⟨x0, x1, x2, x3, x4, rfl⟩ : ∃ x0 x1 x2 x3 x4, xs = [x0, x1, x2, x3, x4] := by
      match xs, hx with | [x0, x1, x2, x3, x4], _ => exact ⟨x0, x1, x2, x3, x4, rfl⟩
    obtain ⟨c0, c1, c2, c3, c4, rfl⟩ : ∃ c0 c1 c2 c3 c4, cs = [c0, c1, c2, c3, c4] := by
      match cs, hc with | [c0, c1, c2, c3, c4], _ => exact ⟨c0, c1, c2, c3, c4, rfl⟩
    simp only [List.map_cons, List.map_nil, bulk.lcons, bulk.lnil] at hb
    have f0 := hf 0 (by omega)
    have f1 := hf 1 (by omega)
    have f2 := hf 2 (by omega)
    have f3 := hf 3 (by omega)
    have f4 := hf 4 (by omega)
    simp only [show Try.prog.cellsOf 23 = 1 from by kernel_rfl, Nat.reduceMul, List.drop_zero, List.drop_succ_cons, List.take_succ_cons, List.take_zero, List.getElem?_cons_zero, List.getElem?_cons_succ] at f0 f1 f2 f3 f4
    obtain ⟨a0, r0, m0, p0⟩ := rdSs n hm f0 (hl x0 (by simp))
    obtain ⟨a1, r1, m1, p1⟩ := rdSs n hm f1 (hl x1 (by simp))
    obtain ⟨a2, r2, m2, p2⟩ := rdSs n hm f2 (hl x2 (by simp))
    obtain ⟨a3, r3, m3, p3⟩ := rdSs n hm f3 (hl x3 (by simp))
    obtain ⟨a4, r4, m4, p4⟩ := rdSs n hm f4 (hl x4 (by simp))
    dsimp only at m0 m1 m2 m3 m4
    refine ⟨(a0, a1, a2, a3, a4), r0.append (r1.append (r2.append (r3.append r4))), ?_, trivial⟩
    simp only [wOn, wSL_sum]; omega
theorem rdP : ∀ n, Rd Try.prog bk n 26 encP wP (fun _ => True) := by
  intro n
  induction n with
  | zero => exact Rd.zero
  | succ n ih =>
    intro H e w sp hd fuel cs x hn h hlt
    obtain ⟨xs, m, hm, hc, hx, hb, hf, hl⟩ := trod_fields bulk Try.underlying26 hn h hlt
    rw [show Try.prog.cellsOf 26 = 9 from by kernel_rfl] at hc
    obtain ⟨x0, x1, x2, x3, x4, rfl⟩ : ∃ x0 x1 x2 x3 x4, xs = [x0, x1, x2, x3, x4] := by
      match xs, hx with | [x0, x1, x2, x3, x4], _ => exact ⟨x0, x1, x2, x3, x4, rfl⟩
    obtain ⟨c0, c1, c2, c3, c4, c5, c6, c7, c8, rfl⟩ : ∃ c0 c1 c2 c3 c4 c5 c6 c7 c8, cs = [c0, c1, c2, c3, c4, c5, c6, c7, c8] := by
      match cs, hc with | [c0, c1, c2, c3, c4, c5, c6, c7, c8], _ => exact ⟨c0, c1, c2, c3, c4, c5, c6, c7, c8, rfl⟩
    simp only [List.map_cons, List.map_nil, bulk.lcons, bulk.lnil] at hb
    have f0 := hf 0 _ rfl
    have f1 := hf 1 _ rfl
    have f2 := hf 2 _ rfl
    have f3 := hf 3 _ rfl
    have f4 := hf 4 _ rfl
    simp only [show Try.prog.cellsOf 24 = 5 from by kernel_rfl, show Try.prog.cellsOf 22 = 1 from by kernel_rfl, show Try.prog.cellsOf 3 = 1 from by kernel_rfl, show Try.prog.cellsOf 9 = 1 from by kernel_rfl, List.drop_zero, List.drop_succ_cons, List.take_succ_cons, List.take_zero, List.getElem?_cons_zero, List.getElem?_cons_succ] at f0 f1 f2 f3 f4
    obtain ⟨a0, r0, m0, p0⟩ := (Rd.str bulk (n := n) Try.underlying9) hm f0 (hl x0 (by simp))
    obtain ⟨a1, r1, m1, p1⟩ := (rdVs n) hm f1 (hl x1 (by simp))
    obtain ⟨a2, r2, m2, p2⟩ := (rdOn n) hm f2 (hl x2 (by simp))
    obtain ⟨a3, r3, m3, p3⟩ := (Rd.int bulk (n := n) Try.underlying3) hm f3 (hl x3 (by simp))
    obtain ⟨a4, r4, m4, p4⟩ := (Rd.int bulk (n := n) Try.underlying3) hm f4 (hl x4 (by simp))
    (try dsimp only at m0); (try dsimp only at m1); (try dsimp only at m2); (try dsimp only at m3); (try dsimp only at m4)
    refine ⟨⟨a0, a1, a2.1, a2.2.1, a2.2.2.1, a2.2.2.2.1, a2.2.2.2.2, a3, a4⟩, ?_, ?_, trivial⟩
    · exact r0.append (r1.append (r2.append (r3.append (r4))))
    · simp only [wP]; simp only [wOn] at m2; omega
end Go.Proofs.Ytkchihkmhojdnaa.Y
