/- Part 4 of the proofs of seat Ytpfjlifneibhfaa: what the texts behind it lean on (abstract memory, walks of functions, plain laws). -/
import Derived.Test.YtpfjlifneibhfaaB3
import Derived.WideLaws
import Derived.Test.YtpfjlifneibhfaaRows
set_option linter.unusedSectionVars false
set_option linter.unusedSimpArgs false
set_option linter.unusedVariables false
set_option maxHeartbeats 100000000
set_option maxRecDepth 100000
namespace Go.Proofs.Ytpfjlifneibhfaa.Y
open Go.Proofs.Ytpfjlifneibhfaa.AL Go.Proofs Go
attribute [local irreducible] AWP AWL AWG AWR AWE AWX AWO AWSeq AWSG AWSR AWSO AWSE AWSF GoodP OGW OGR OGE OGX PGW PGR PGE Wk AWLoop AWPD AWLD
theorem dr61_12_U7 : Drawn Try.prog 12 (regOps 12 ((Try.f61.body).getD .skip)) [6, 7] [] [.win [0], .win [0], .win [0], .win [0], .win [0], .win [0], .eff 0, .eff 1] 2 [] := ⟨rfl, by as_aux_lemma => kernel_rfl⟩
theorem dr61_15_U7 : Drawn Try.prog 15 (regOps 15 ((Try.f61.body).getD .skip)) [6, 7] [] [.win [0], .win [0], .win [0], .win [0], .win [0], .win [0], .eff 0, .eff 1] 2 [] := ⟨rfl, by as_aux_lemma => kernel_rfl⟩
theorem dr61_16_U7 : Drawn Try.prog 16 (regOps 16 ((Try.f61.body).getD .skip)) [7] [] [.win [0], .win [0], .win [0], .win [0], .win [0], .win [0], .win [0], .eff 0] 1 [] := ⟨rfl, by as_aux_lemma => kernel_rfl⟩
theorem plus_ok (a b : Un) (s : Int) (ha : a.ok) (hb : b.ok) (hs : s = 1 ∨ s = -1) (h : (a.add b s).ok) (H0 : List AObj) : ARun Try.prog 67 [.ag (cU a), .ag (cU b), .i s] H0 (.ret (.ag (cU (a.add b s))) H0) := by
  have := plus_run a b s ha hb hs H0
  rwa [outC, if_pos h] at this
theorem plus_bad (a b : Un) (s : Int) (ha : a.ok) (hb : b.ok) (hs : s = 1 ∨ s = -1) (h : ¬ (a.add b s).ok) (H0 : List AObj) : ARun Try.prog 67 [.ag (cU a), .ag (cU b), .i s] H0 (.pan (.sc (.iface 23 (.int .i64 13))) H0) := by
  have := plus_run a b s ha hb hs H0
  rwa [outC, if_neg h] at this
theorem infer_run (vs : List Un) (hvs : ∀ u ∈ vs, u.ok) (e : Ex) : ∀ (H0 : List AObj), nodes e ≤ 1000000 → ARun Try.prog 61 [chk vs, .ag (cE e)] H0 (outU 23 (inf vs e) H0) := by
  induction e using Ex.ind with
  | h e ih =>
    intro H0 hnod
    rw [nodes_eq] at hnod
    have hlen := len_nodesL e.kids
    (refine ARun.intro Try.func61 rfl Try.call61 Try.ntmps61 Try.results61 ?_; simp only [List.length_cons, List.length_nil, List.length_map, Nat.reduceAdd, Nat.reduceSub, List.replicate_succ, List.replicate_zero, List.cons_append, List.nil_append])
    (refine wk ?_; (repeat' first | exact True.intro | refine Lf.mk ?_ ?_); all_goals intro hP)
    refine awp_loop_ind (σ := Nat × List Un) (fun s => e.kids.length - s.1)
      (fun s => s.2.length = s.1 ∧ s.1 ≤ e.kids.length ∧ (∀ u ∈ s.2, u.ok) ∧ infL vs e.kids = match infL vs (e.kids.drop s.1) with | .ok r => .ok (s.2 ++ r) | .error x => .error x)
      (fun s => (chk vs :: .any :: .any :: .p H0.length 0 :: .p (H0.length + 1) 0 :: .os (H0.length + 2) 0 s.2.length s.2.length :: .any :: .any :: .any :: .rs 4 (e.kids.map encE) :: .i e.kids.length :: .i s.1 :: .any :: .any :: .any :: .any :: .any :: .any :: .any :: .any :: .any :: .any :: .any :: .any :: .any :: .any :: .any :: .any :: .any :: .any :: .any :: .any :: .any :: .any :: .any :: .any :: .any :: .any :: .any :: .any :: .any :: .any :: .any :: .any :: .any :: .any :: .any :: .any :: .any :: .any :: .any :: .any :: .any :: .any :: .any :: .any :: .any :: .any :: .any :: .any :: .any :: .any :: .any :: .any :: .any :: .any :: .any :: .any :: .any :: .any :: .any :: .any :: .any :: .any :: []))
      (fun s => H0 ++ [.cells 41 [.i e.op, .i e.n, .i e.unit, .rs 4 (e.kids.map encE)], .cells 90 [.i 0, .i 0, .i 0], .arr 90 3 (pvRows (s.2.map fun u => cU u))]) (0, [])
      ⟨rfl, Nat.zero_le _, by simp, by simp only [List.drop_zero, List.nil_append]; cases infL vs e.kids <;> rfl⟩
      (Wk.ghostL 5 2 90 (sz := 3) (by omega) rfl rfl rfl (by (refine fgX ?_; try exact True.intro))) ?_
    · rintro ⟨i, acc⟩ ⟨h1, h2, h3, h4⟩
      simp only at h1 h2 h3 h4 ⊢
      have hf1 : (acc.length + 1) * 24 ≤ 140737488355328 := by omega
      have hf2 : acc.length + 1 ≤ 9223372036854775807 := by omega
      cases hr : e.kids.drop i with
      | nil =>
        have hlt := drop_nil hr
        rw [hr] at h4
        simp only [infL, List.append_nil] at h4
        have hinf : inf vs e = node vs e.op e.n e.unit acc := by rw [inf_eq, h4]
        rw [hinf]
        rcases acc with _ | ⟨a, _ | ⟨b, _ | ⟨c, rs⟩⟩⟩
        · have hl := fun H0 => leaf_run vs e H0
          simp only [node]
          cases hle : leafS vs e.op e.n e.unit with
          | ok u =>
            simp only [hle, outU] at hl ⊢
            repeat' (first | refine awp_seq ?_ | refine awp_block ?_ | refine awp_scope ?_ | ((first | refine awp_region_k fun Kn Kp hn hp => ?_ | show AWP _ _ (Code.region 12 _ true) _ _ _; refine awp_drawn_k (id := 12) [6, 7] [] [.win [0], .win [0], .win [0], .win [0], .win [0], .win [0], .eff 0, .eff 1] 2 rfl (by as_aux_lemma => kernel_rfl) fun Kn Kp hn hp => ?_ | show AWP _ _ (Code.region 15 _ true) _ _ _; refine awp_drawn_k (id := 15) [6, 7] [] [.win [0], .win [0], .win [0], .win [0], .win [0], .win [0], .eff 0, .eff 1] 2 rfl (by as_aux_lemma => kernel_rfl) fun Kn Kp hn hp => ?_ | show AWP _ _ (Code.region 16 _ true) _ _ _; refine awp_drawn_k (id := 16) [7] [] [.win [0], .win [0], .win [0], .win [0], .win [0], .win [0], .win [0], .eff 0] 1 rfl (by as_aux_lemma => kernel_rfl) fun Kn Kp hn hp => ?_ | refine oge_intro (by assumption) ?_ | (show AWE _ _ _ _ _ _ _ _ _; first | refine awe_intro (hl _) ?_) | (show AWSF _ _ _ _ _ _ _ _ _ _ _; first | refine awsf_intro (hl _) (fun hrun => ?_)) | (show OGE _ _ _ _ _ _ _; first | refine oge_intro (hl _) ?_) | (show AWSE _ _ _ _ _ _ _ _ _ _ _; first | refine awse_intro (hl _) (fun hrun => ?_)) | (show PGE _ _ _ _ _; first | refine pge_intro (hl _) (fun tm' => ?_))) <;> (simp only [go_sem, Nat.reduceAdd, Nat.reduceSub, Nat.reduceMul, Nat.reduceLeDiff, Nat.reduceLT, Nat.reduceEqDiff, Int.reduceToNat, Int.reduceAdd, Int.reduceMul, Int.reduceSub, Int.reduceLT, Int.reduceLE, Int.reduceEq, Int.reduceNeg, Int.reduceBEq, Int.reduceBNe, ↓reduceIte, reduceCtorEq, hlt, pvRows_len, Int.natCast_zero, List.length_map] <;> try simp (disch := omega) only [wrap_of])) | (refine hn _ _ ?_; clear hn hp Kn Kp) | (refine hp _ _ _ ?_; clear hn hp Kn Kp) | (refine awp_cond rfl (fun hb => ?_) (fun hb => ?_) <;> (try simp only [decide_eq_true_eq, decide_eq_false_iff_not, Bool.not_eq_true', Bool.not_eq_false', Bool.true_eq_false, Bool.false_eq_true, beq_iff_eq, bne_iff_ne, bne_eq_false_iff_eq, beq_eq_false_iff_ne, gt_iff_lt, ge_iff_le, Int.reduceEq, Int.reduceNe, Int.reduceLT, Int.reduceLE, ne_eq, not_true_eq_false, not_false_eq_true] at hb)) | ((first | refine awg_split (fun hb => ?_) (fun hb => ?_) | refine awsg_split (fun hb => ?_) (fun hb => ?_)) <;> have hb0 := hb <;> (try simp only [decide_eq_true_eq, decide_eq_false_iff_not, Bool.not_eq_true', Bool.not_eq_false', Bool.true_eq_false, Bool.false_eq_true, beq_iff_eq, bne_iff_ne, bne_eq_false_iff_eq, beq_eq_false_iff_ne, gt_iff_lt, ge_iff_le, Int.reduceEq, Int.reduceNe, Int.reduceLT, Int.reduceLE, ne_eq, not_true_eq_false, not_false_eq_true] at hb0) <;> (try simp only [beq_true, beq_false, Bool.not_eq_true', Bool.not_eq_false'] at hb) <;> (simp only [go_sem, Nat.reduceAdd, Nat.reduceSub, Nat.reduceMul, Nat.reduceLeDiff, Nat.reduceLT, Nat.reduceEqDiff, Int.reduceToNat, Int.reduceAdd, Int.reduceMul, Int.reduceSub, Int.reduceLT, Int.reduceLE, Int.reduceEq, Int.reduceNeg, Int.reduceBEq, Int.reduceBNe, ↓reduceIte, reduceCtorEq, hlt, pvRows_len, Int.natCast_zero, List.length_map, hb, hb0] <;> try simp (disch := omega) only [wrap_of])) | (refine And.intro ?_ ?_) | refine awp_skip ?_ | refine awp_ret ?_ | refine awp_exit ?_ | refine awp_label ?_ | refine awloop_step ?_ | fail)
            (refine resX ?_; try exact True.intro)
          | error x =>
            simp only [hle, outU] at hl ⊢
            repeat' (first | refine awp_seq ?_ | refine awp_block ?_ | refine awp_scope ?_ | ((first | refine awp_region_k fun Kn Kp hn hp => ?_ | show AWP _ _ (Code.region 12 _ true) _ _ _; refine awp_drawn_k (id := 12) [6, 7] [] [.win [0], .win [0], .win [0], .win [0], .win [0], .win [0], .eff 0, .eff 1] 2 rfl (by as_aux_lemma => kernel_rfl) fun Kn Kp hn hp => ?_ | show AWP _ _ (Code.region 15 _ true) _ _ _; refine awp_drawn_k (id := 15) [6, 7] [] [.win [0], .win [0], .win [0], .win [0], .win [0], .win [0], .eff 0, .eff 1] 2 rfl (by as_aux_lemma => kernel_rfl) fun Kn Kp hn hp => ?_ | show AWP _ _ (Code.region 16 _ true) _ _ _; refine awp_drawn_k (id := 16) [7] [] [.win [0], .win [0], .win [0], .win [0], .win [0], .win [0], .win [0], .eff 0] 1 rfl (by as_aux_lemma => kernel_rfl) fun Kn Kp hn hp => ?_ | refine oge_intro (by assumption) ?_ | (show AWE _ _ _ _ _ _ _ _ _; first | refine awe_intro (hl _) ?_) | (show AWSF _ _ _ _ _ _ _ _ _ _ _; first | refine awsf_intro (hl _) (fun hrun => ?_)) | (show OGE _ _ _ _ _ _ _; first | refine oge_intro (hl _) ?_) | (show AWSE _ _ _ _ _ _ _ _ _ _ _; first | refine awse_intro (hl _) (fun hrun => ?_)) | (show PGE _ _ _ _ _; first | refine pge_intro (hl _) (fun tm' => ?_))) <;> (simp only [go_sem, Nat.reduceAdd, Nat.reduceSub, Nat.reduceMul, Nat.reduceLeDiff, Nat.reduceLT, Nat.reduceEqDiff, Int.reduceToNat, Int.reduceAdd, Int.reduceMul, Int.reduceSub, Int.reduceLT, Int.reduceLE, Int.reduceEq, Int.reduceNeg, Int.reduceBEq, Int.reduceBNe, ↓reduceIte, reduceCtorEq, hlt, pvRows_len, Int.natCast_zero, List.length_map] <;> try simp (disch := omega) only [wrap_of])) | (refine hn _ _ ?_; clear hn hp Kn Kp) | (refine hp _ _ _ ?_; clear hn hp Kn Kp) | (refine awp_cond rfl (fun hb => ?_) (fun hb => ?_) <;> (try simp only [decide_eq_true_eq, decide_eq_false_iff_not, Bool.not_eq_true', Bool.not_eq_false', Bool.true_eq_false, Bool.false_eq_true, beq_iff_eq, bne_iff_ne, bne_eq_false_iff_eq, beq_eq_false_iff_ne, gt_iff_lt, ge_iff_le, Int.reduceEq, Int.reduceNe, Int.reduceLT, Int.reduceLE, ne_eq, not_true_eq_false, not_false_eq_true] at hb)) | ((first | refine awg_split (fun hb => ?_) (fun hb => ?_) | refine awsg_split (fun hb => ?_) (fun hb => ?_)) <;> have hb0 := hb <;> (try simp only [decide_eq_true_eq, decide_eq_false_iff_not, Bool.not_eq_true', Bool.not_eq_false', Bool.true_eq_false, Bool.false_eq_true, beq_iff_eq, bne_iff_ne, bne_eq_false_iff_eq, beq_eq_false_iff_ne, gt_iff_lt, ge_iff_le, Int.reduceEq, Int.reduceNe, Int.reduceLT, Int.reduceLE, ne_eq, not_true_eq_false, not_false_eq_true] at hb0) <;> (try simp only [beq_true, beq_false, Bool.not_eq_true', Bool.not_eq_false'] at hb) <;> (simp only [go_sem, Nat.reduceAdd, Nat.reduceSub, Nat.reduceMul, Nat.reduceLeDiff, Nat.reduceLT, Nat.reduceEqDiff, Int.reduceToNat, Int.reduceAdd, Int.reduceMul, Int.reduceSub, Int.reduceLT, Int.reduceLE, Int.reduceEq, Int.reduceNeg, Int.reduceBEq, Int.reduceBNe, ↓reduceIte, reduceCtorEq, hlt, pvRows_len, Int.natCast_zero, List.length_map, hb, hb0] <;> try simp (disch := omega) only [wrap_of])) | (refine And.intro ?_ ?_) | refine awp_skip ?_ | refine awp_ret ?_ | refine awp_exit ?_ | refine awp_label ?_ | refine awloop_step ?_ | fail)
            (refine panX ?_; try exact True.intro)
        · simp only [node, outU]
          repeat' (first | refine awp_seq ?_ | refine awp_block ?_ | refine awp_scope ?_ | ((first | refine awp_region_k fun Kn Kp hn hp => ?_ | show AWP _ _ (Code.region 12 _ true) _ _ _; refine awp_drawn_k (id := 12) [6, 7] [] [.win [0], .win [0], .win [0], .win [0], .win [0], .win [0], .eff 0, .eff 1] 2 rfl (by as_aux_lemma => kernel_rfl) fun Kn Kp hn hp => ?_ | show AWP _ _ (Code.region 15 _ true) _ _ _; refine awp_drawn_k (id := 15) [6, 7] [] [.win [0], .win [0], .win [0], .win [0], .win [0], .win [0], .eff 0, .eff 1] 2 rfl (by as_aux_lemma => kernel_rfl) fun Kn Kp hn hp => ?_ | show AWP _ _ (Code.region 16 _ true) _ _ _; refine awp_drawn_k (id := 16) [7] [] [.win [0], .win [0], .win [0], .win [0], .win [0], .win [0], .win [0], .eff 0] 1 rfl (by as_aux_lemma => kernel_rfl) fun Kn Kp hn hp => ?_ | refine oge_intro (by assumption) ?_ | (show AWE _ _ _ _ _ _ _ _ _; first | refine awe_intro (must_pan _ _) ?_) | (show AWSF _ _ _ _ _ _ _ _ _ _ _; first | refine awsf_intro (must_pan _ _) (fun hrun => ?_)) | (show OGE _ _ _ _ _ _ _; first | refine oge_intro (must_pan _ _) ?_) | (show AWSE _ _ _ _ _ _ _ _ _ _ _; first | refine awse_intro (must_pan _ _) (fun hrun => ?_)) | (show PGE _ _ _ _ _; first | refine pge_intro (must_pan _ _) (fun tm' => ?_))) <;> (simp only [go_sem, Nat.reduceAdd, Nat.reduceSub, Nat.reduceMul, Nat.reduceLeDiff, Nat.reduceLT, Nat.reduceEqDiff, Int.reduceToNat, Int.reduceAdd, Int.reduceMul, Int.reduceSub, Int.reduceLT, Int.reduceLE, Int.reduceEq, Int.reduceNeg, Int.reduceBEq, Int.reduceBNe, ↓reduceIte, reduceCtorEq, hlt, pvRows_len, Int.natCast_zero, Int.natCast_one, List.length_map] <;> try simp (disch := omega) only [wrap_of])) | (refine hn _ _ ?_; clear hn hp Kn Kp) | (refine hp _ _ _ ?_; clear hn hp Kn Kp) | (refine awp_cond rfl (fun hb => ?_) (fun hb => ?_) <;> (try simp only [decide_eq_true_eq, decide_eq_false_iff_not, Bool.not_eq_true', Bool.not_eq_false', Bool.true_eq_false, Bool.false_eq_true, beq_iff_eq, bne_iff_ne, bne_eq_false_iff_eq, beq_eq_false_iff_ne, gt_iff_lt, ge_iff_le, Int.reduceEq, Int.reduceNe, Int.reduceLT, Int.reduceLE, ne_eq, not_true_eq_false, not_false_eq_true] at hb)) | ((first | refine awg_split (fun hb => ?_) (fun hb => ?_) | refine awsg_split (fun hb => ?_) (fun hb => ?_)) <;> have hb0 := hb <;> (try simp only [decide_eq_true_eq, decide_eq_false_iff_not, Bool.not_eq_true', Bool.not_eq_false', Bool.true_eq_false, Bool.false_eq_true, beq_iff_eq, bne_iff_ne, bne_eq_false_iff_eq, beq_eq_false_iff_ne, gt_iff_lt, ge_iff_le, Int.reduceEq, Int.reduceNe, Int.reduceLT, Int.reduceLE, ne_eq, not_true_eq_false, not_false_eq_true] at hb0) <;> (try simp only [beq_true, beq_false, Bool.not_eq_true', Bool.not_eq_false'] at hb) <;> (simp only [go_sem, Nat.reduceAdd, Nat.reduceSub, Nat.reduceMul, Nat.reduceLeDiff, Nat.reduceLT, Nat.reduceEqDiff, Int.reduceToNat, Int.reduceAdd, Int.reduceMul, Int.reduceSub, Int.reduceLT, Int.reduceLE, Int.reduceEq, Int.reduceNeg, Int.reduceBEq, Int.reduceBNe, ↓reduceIte, reduceCtorEq, hlt, pvRows_len, Int.natCast_zero, Int.natCast_one, List.length_map, hb, hb0] <;> try simp (disch := omega) only [wrap_of])) | (refine And.intro ?_ ?_) | refine awp_skip ?_ | refine awp_ret ?_ | refine awp_exit ?_ | refine awp_label ?_ | refine awloop_step ?_ | fail)
          all_goals first
            | omega
            | ((refine panX ?_; try exact True.intro))
        · simp only [node]
          have ha := h3 a (by simp)
          have hb0 := h3 b (by simp)
          by_cases hop : 4 ≤ e.op ∧ e.op ≤ 10
          · rw [if_pos hop]
            obtain ⟨hop1, hop2⟩ := hop
            by_cases h6 : e.op = 6
            · by_cases hk : (a.add b 1).ok
              · have hcb : comb e.op a b = .ok (a.add b 1) := by simp [comb, h6, hk]
                rw [hcb]
                simp only [outU]
                (have rr1 := dr61_12_U7; have rr2 := dr61_15_U7; have rr3 := dr61_16_U7; have ww1 := hlt; have ww2 := @pvRows.eq_1; have ww3 := @pvRows_len; have ww4 := h6; have cc1 := fun z1 z2 => must_run z1 z2; have cc2 := fun z1 => plus_ok a b 1 ha hb0 (.inl rfl) hk z1; refine wk ?_; clear rr1 rr2 rr3 ww1 ww2 ww3 ww4 cc1 cc2; (repeat' first | exact True.intro | refine Lf.mk ?_ ?_); all_goals intro hP)
                (refine resX ?_; try exact True.intro)
              · have hcb : comb e.op a b = .error 13 := by simp [comb, h6, hk]
                rw [hcb]
                simp only [outU]
                repeat' (first | refine awp_seq ?_ | refine awp_block ?_ | refine awp_scope ?_ | ((first | refine awp_region_k fun Kn Kp hn hp => ?_ | show AWP _ _ (Code.region 12 _ true) _ _ _; refine awp_drawn_k (id := 12) [6, 7] [6] [.win [0], .win [0], .win [0], .win [0], .win [0], .win [0], .pan [0], .skip] 2 rfl (by as_aux_lemma => kernel_rfl) fun Kn Kp hn hp => ?_ | show AWP _ _ (Code.region 15 _ true) _ _ _; refine awp_drawn_k (id := 15) [6, 7] [] [.win [0], .win [0], .win [0], .win [0], .win [0], .win [0], .eff 0, .eff 1] 2 rfl (by as_aux_lemma => kernel_rfl) fun Kn Kp hn hp => ?_ | show AWP _ _ (Code.region 16 _ true) _ _ _; refine awp_drawn_k (id := 16) [7] [] [.win [0], .win [0], .win [0], .win [0], .win [0], .win [0], .win [0], .eff 0] 1 rfl (by as_aux_lemma => kernel_rfl) fun Kn Kp hn hp => ?_ | refine oge_intro (by assumption) ?_ | (show AWE _ _ _ _ _ _ _ _ _; first | refine awe_intro (must_run _ _) ?_ | refine awe_intro (plus_bad a b 1 ha hb0 (.inl rfl) hk _) ?_) | (show AWSF _ _ _ _ _ _ _ _ _ _ _; first | refine awsf_intro (must_run _ _) (fun hrun => ?_) | refine awsf_intro (plus_bad a b 1 ha hb0 (.inl rfl) hk _) (fun hrun => ?_)) | (show OGE _ _ _ _ _ _ _; first | refine oge_intro (must_run _ _) ?_ | refine oge_intro (plus_bad a b 1 ha hb0 (.inl rfl) hk _) ?_) | (show AWSE _ _ _ _ _ _ _ _ _ _ _; first | refine awse_intro (must_run _ _) (fun hrun => ?_) | refine awse_intro (plus_bad a b 1 ha hb0 (.inl rfl) hk _) (fun hrun => ?_)) | (show PGE _ _ _ _ _; first | refine pge_intro (must_run _ _) (fun tm' => ?_) | refine pge_intro (plus_bad a b 1 ha hb0 (.inl rfl) hk _) (fun tm' => ?_))) <;> (simp only [go_sem, Nat.reduceAdd, Nat.reduceSub, Nat.reduceMul, Nat.reduceLeDiff, Nat.reduceLT, Nat.reduceEqDiff, Int.reduceToNat, Int.reduceAdd, Int.reduceMul, Int.reduceSub, Int.reduceLT, Int.reduceLE, Int.reduceEq, Int.reduceNeg, Int.reduceBEq, Int.reduceBNe, ↓reduceIte, reduceCtorEq, hlt, pvRows, pvRows_len, h6, List.length_map] <;> try simp (disch := omega) only [wrap_of])) | (refine hn _ _ ?_; clear hn hp Kn Kp) | (refine hp _ _ _ ?_; clear hn hp Kn Kp) | (refine awp_cond rfl (fun hb => ?_) (fun hb => ?_) <;> (try simp only [decide_eq_true_eq, decide_eq_false_iff_not, Bool.not_eq_true', Bool.not_eq_false', Bool.true_eq_false, Bool.false_eq_true, beq_iff_eq, bne_iff_ne, bne_eq_false_iff_eq, beq_eq_false_iff_ne, gt_iff_lt, ge_iff_le, Int.reduceEq, Int.reduceNe, Int.reduceLT, Int.reduceLE, ne_eq, not_true_eq_false, not_false_eq_true] at hb)) | ((first | refine awg_split (fun hb => ?_) (fun hb => ?_) | refine awsg_split (fun hb => ?_) (fun hb => ?_)) <;> have hb0 := hb <;> (try simp only [decide_eq_true_eq, decide_eq_false_iff_not, Bool.not_eq_true', Bool.not_eq_false', Bool.true_eq_false, Bool.false_eq_true, beq_iff_eq, bne_iff_ne, bne_eq_false_iff_eq, beq_eq_false_iff_ne, gt_iff_lt, ge_iff_le, Int.reduceEq, Int.reduceNe, Int.reduceLT, Int.reduceLE, ne_eq, not_true_eq_false, not_false_eq_true] at hb0) <;> (try simp only [beq_true, beq_false, Bool.not_eq_true', Bool.not_eq_false'] at hb) <;> (simp only [go_sem, Nat.reduceAdd, Nat.reduceSub, Nat.reduceMul, Nat.reduceLeDiff, Nat.reduceLT, Nat.reduceEqDiff, Int.reduceToNat, Int.reduceAdd, Int.reduceMul, Int.reduceSub, Int.reduceLT, Int.reduceLE, Int.reduceEq, Int.reduceNeg, Int.reduceBEq, Int.reduceBNe, ↓reduceIte, reduceCtorEq, hlt, pvRows, pvRows_len, h6, List.length_map, hb, hb0] <;> try simp (disch := omega) only [wrap_of])) | (refine And.intro ?_ ?_) | refine awp_skip ?_ | refine awp_ret ?_ | refine awp_exit ?_ | refine awp_label ?_ | refine awloop_step ?_ | fail)
                (refine panX ?_; try exact True.intro)
            · have g6 : (e.op == 6) = false := by simpa using h6
              by_cases h78 : e.op = 7 ∨ e.op = 8
              · rcases h78 with hs8 | hs8
                all_goals
                  by_cases hk : (a.add b (-1)).ok
                  · have hcb : comb e.op a b = .ok (a.add b (-1)) := by simp [comb, hs8, hk]
                    rw [hcb]
                    simp only [outU]
                    (have rr1 := dr61_12_U7; have rr2 := dr61_15_U7; have rr3 := dr61_16_U7; have ww1 := hlt; have ww2 := @pvRows.eq_1; have ww3 := @pvRows_len; have ww4 := hs8; have cc1 := fun z1 z2 => must_run z1 z2; have cc2 := fun z1 => plus_ok a b (-1) ha hb0 (.inr rfl) hk z1; refine wk ?_; clear rr1 rr2 rr3 ww1 ww2 ww3 ww4 cc1 cc2; (repeat' first | exact True.intro | refine Lf.mk ?_ ?_); all_goals intro hP)
                    (refine resX ?_; try exact True.intro)
                  · have hcb : comb e.op a b = .error 13 := by simp [comb, hs8, hk]
                    rw [hcb]
                    simp only [outU]
                    repeat' (first | refine awp_seq ?_ | refine awp_block ?_ | refine awp_scope ?_ | ((first | refine awp_region_k fun Kn Kp hn hp => ?_ | show AWP _ _ (Code.region 12 _ true) _ _ _; refine awp_drawn_k (id := 12) [6, 7] [] [.win [0], .win [0], .win [0], .win [0], .win [0], .win [0], .eff 0, .eff 1] 2 rfl (by as_aux_lemma => kernel_rfl) fun Kn Kp hn hp => ?_ | show AWP _ _ (Code.region 15 _ true) _ _ _; refine awp_drawn_k (id := 15) [6, 7] [6] [.win [0], .win [0], .win [0], .win [0], .win [0], .win [0], .pan [0], .skip] 2 rfl (by as_aux_lemma => kernel_rfl) fun Kn Kp hn hp => ?_ | show AWP _ _ (Code.region 16 _ true) _ _ _; refine awp_drawn_k (id := 16) [7] [] [.win [0], .win [0], .win [0], .win [0], .win [0], .win [0], .win [0], .eff 0] 1 rfl (by as_aux_lemma => kernel_rfl) fun Kn Kp hn hp => ?_ | refine oge_intro (by assumption) ?_ | (show AWE _ _ _ _ _ _ _ _ _; first | refine awe_intro (must_run _ _) ?_ | refine awe_intro (plus_bad a b (-1) ha hb0 (.inr rfl) hk _) ?_) | (show AWSF _ _ _ _ _ _ _ _ _ _ _; first | refine awsf_intro (must_run _ _) (fun hrun => ?_) | refine awsf_intro (plus_bad a b (-1) ha hb0 (.inr rfl) hk _) (fun hrun => ?_)) | (show OGE _ _ _ _ _ _ _; first | refine oge_intro (must_run _ _) ?_ | refine oge_intro (plus_bad a b (-1) ha hb0 (.inr rfl) hk _) ?_) | (show AWSE _ _ _ _ _ _ _ _ _ _ _; first | refine awse_intro (must_run _ _) (fun hrun => ?_) | refine awse_intro (plus_bad a b (-1) ha hb0 (.inr rfl) hk _) (fun hrun => ?_)) | (show PGE _ _ _ _ _; first | refine pge_intro (must_run _ _) (fun tm' => ?_) | refine pge_intro (plus_bad a b (-1) ha hb0 (.inr rfl) hk _) (fun tm' => ?_))) <;> (simp only [go_sem, Nat.reduceAdd, Nat.reduceSub, Nat.reduceMul, Nat.reduceLeDiff, Nat.reduceLT, Nat.reduceEqDiff, Int.reduceToNat, Int.reduceAdd, Int.reduceMul, Int.reduceSub, Int.reduceLT, Int.reduceLE, Int.reduceEq, Int.reduceNeg, Int.reduceBEq, Int.reduceBNe, ↓reduceIte, reduceCtorEq, hlt, pvRows, pvRows_len, hs8, List.length_map] <;> try simp (disch := omega) only [wrap_of])) | (refine hn _ _ ?_; clear hn hp Kn Kp) | (refine hp _ _ _ ?_; clear hn hp Kn Kp) | (refine awp_cond rfl (fun hb => ?_) (fun hb => ?_) <;> (try simp only [decide_eq_true_eq, decide_eq_false_iff_not, Bool.not_eq_true', Bool.not_eq_false', Bool.true_eq_false, Bool.false_eq_true, beq_iff_eq, bne_iff_ne, bne_eq_false_iff_eq, beq_eq_false_iff_ne, gt_iff_lt, ge_iff_le, Int.reduceEq, Int.reduceNe, Int.reduceLT, Int.reduceLE, ne_eq, not_true_eq_false, not_false_eq_true] at hb)) | ((first | refine awg_split (fun hb => ?_) (fun hb => ?_) | refine awsg_split (fun hb => ?_) (fun hb => ?_)) <;> have hb0 := hb <;> (try simp only [decide_eq_true_eq, decide_eq_false_iff_not, Bool.not_eq_true', Bool.not_eq_false', Bool.true_eq_false, Bool.false_eq_true, beq_iff_eq, bne_iff_ne, bne_eq_false_iff_eq, beq_eq_false_iff_ne, gt_iff_lt, ge_iff_le, Int.reduceEq, Int.reduceNe, Int.reduceLT, Int.reduceLE, ne_eq, not_true_eq_false, not_false_eq_true] at hb0) <;> (try simp only [beq_true, beq_false, Bool.not_eq_true', Bool.not_eq_false'] at hb) <;> (simp only [go_sem, Nat.reduceAdd, Nat.reduceSub, Nat.reduceMul, Nat.reduceLeDiff, Nat.reduceLT, Nat.reduceEqDiff, Int.reduceToNat, Int.reduceAdd, Int.reduceMul, Int.reduceSub, Int.reduceLT, Int.reduceLE, Int.reduceEq, Int.reduceNeg, Int.reduceBEq, Int.reduceBNe, ↓reduceIte, reduceCtorEq, hlt, pvRows, pvRows_len, hs8, List.length_map, hb, hb0] <;> try simp (disch := omega) only [wrap_of])) | (refine And.intro ?_ ?_) | refine awp_skip ?_ | refine awp_ret ?_ | refine awp_exit ?_ | refine awp_label ?_ | refine awloop_step ?_ | fail)
                    (refine panX ?_; try exact True.intro)
              · have g7 : (e.op == 7) = false := by simp; omega
                have g8 : (e.op == 8) = false := by simp; omega
                by_cases hab : a = b
                · subst hab
                  have hcb : comb e.op a a = .ok a := by simp [comb, h6, h78]
                  rw [hcb]
                  simp only [outU]
                  (have rr1 := dr61_12_U7; have rr2 := dr61_15_U7; have rr3 := dr61_16_U7; have ww1 := hlt; have ww2 := @pvRows.eq_1; have ww3 := @pvRows_len; have ww4 := g6; have ww5 := g7; have ww6 := g8; have ww7 := hop1; have ww8 := hop2; have ww9 := @eqg70; have cc1 := fun z1 z2 => must_run z1 z2; refine wk ?_; clear rr1 rr2 rr3 ww1 ww2 ww3 ww4 ww5 ww6 ww7 ww8 ww9 cc1; (repeat' first | exact True.intro | refine Lf.mk ?_ ?_); all_goals intro hP)
                  (refine resX ?_; try exact True.intro)
                · have hcb : comb e.op a b = .error 13 := by simp [comb, h6, h78, hab]
                  have hE := eqU a b
                  rw [decide_eq_false hab] at hE
                  rw [hcb]
                  simp only [outU]
                  repeat' (first | refine awp_seq ?_ | refine awp_block ?_ | refine awp_scope ?_ | ((first | refine awp_region_k fun Kn Kp hn hp => ?_ | show AWP _ _ (Code.region 12 _ true) _ _ _; refine awp_drawn_k (id := 12) [6, 7] [] [.win [0], .win [0], .win [0], .win [0], .win [0], .win [0], .eff 0, .eff 1] 2 rfl (by as_aux_lemma => kernel_rfl) fun Kn Kp hn hp => ?_ | show AWP _ _ (Code.region 15 _ true) _ _ _; refine awp_drawn_k (id := 15) [6, 7] [] [.win [0], .win [0], .win [0], .win [0], .win [0], .win [0], .eff 0, .eff 1] 2 rfl (by as_aux_lemma => kernel_rfl) fun Kn Kp hn hp => ?_ | show AWP _ _ (Code.region 16 _ true) _ _ _; refine awp_drawn_k (id := 16) [7] [7] [.win [0], .win [0], .win [0], .win [0], .win [0], .win [0], .win [0], .pan [0]] 1 rfl (by as_aux_lemma => kernel_rfl) fun Kn Kp hn hp => ?_ | refine oge_intro (by assumption) ?_ | (show AWE _ _ _ _ _ _ _ _ _; first | refine awe_intro (must_run _ _) ?_ | refine awe_intro (must_pan _ _) ?_) | (show AWSF _ _ _ _ _ _ _ _ _ _ _; first | refine awsf_intro (must_run _ _) (fun hrun => ?_) | refine awsf_intro (must_pan _ _) (fun hrun => ?_)) | (show OGE _ _ _ _ _ _ _; first | refine oge_intro (must_run _ _) ?_ | refine oge_intro (must_pan _ _) ?_) | (show AWSE _ _ _ _ _ _ _ _ _ _ _; first | refine awse_intro (must_run _ _) (fun hrun => ?_) | refine awse_intro (must_pan _ _) (fun hrun => ?_)) | (show PGE _ _ _ _ _; first | refine pge_intro (must_run _ _) (fun tm' => ?_) | refine pge_intro (must_pan _ _) (fun tm' => ?_))) <;> (simp only [go_sem, Nat.reduceAdd, Nat.reduceSub, Nat.reduceMul, Nat.reduceLeDiff, Nat.reduceLT, Nat.reduceEqDiff, Int.reduceToNat, Int.reduceAdd, Int.reduceMul, Int.reduceSub, Int.reduceLT, Int.reduceLE, Int.reduceEq, Int.reduceNeg, Int.reduceBEq, Int.reduceBNe, ↓reduceIte, reduceCtorEq, hlt, pvRows, pvRows_len, g6, g7, g8, hop1, hop2, eqg70, hE, List.length_map] <;> try simp (disch := omega) only [wrap_of])) | (refine hn _ _ ?_; clear hn hp Kn Kp) | (refine hp _ _ _ ?_; clear hn hp Kn Kp) | (refine awp_cond rfl (fun hb => ?_) (fun hb => ?_) <;> (try simp only [decide_eq_true_eq, decide_eq_false_iff_not, Bool.not_eq_true', Bool.not_eq_false', Bool.true_eq_false, Bool.false_eq_true, beq_iff_eq, bne_iff_ne, bne_eq_false_iff_eq, beq_eq_false_iff_ne, gt_iff_lt, ge_iff_le, Int.reduceEq, Int.reduceNe, Int.reduceLT, Int.reduceLE, ne_eq, not_true_eq_false, not_false_eq_true] at hb)) | ((first | refine awg_split (fun hb => ?_) (fun hb => ?_) | refine awsg_split (fun hb => ?_) (fun hb => ?_)) <;> have hb0 := hb <;> (try simp only [decide_eq_true_eq, decide_eq_false_iff_not, Bool.not_eq_true', Bool.not_eq_false', Bool.true_eq_false, Bool.false_eq_true, beq_iff_eq, bne_iff_ne, bne_eq_false_iff_eq, beq_eq_false_iff_ne, gt_iff_lt, ge_iff_le, Int.reduceEq, Int.reduceNe, Int.reduceLT, Int.reduceLE, ne_eq, not_true_eq_false, not_false_eq_true] at hb0) <;> (try simp only [beq_true, beq_false, Bool.not_eq_true', Bool.not_eq_false'] at hb) <;> (simp only [go_sem, Nat.reduceAdd, Nat.reduceSub, Nat.reduceMul, Nat.reduceLeDiff, Nat.reduceLT, Nat.reduceEqDiff, Int.reduceToNat, Int.reduceAdd, Int.reduceMul, Int.reduceSub, Int.reduceLT, Int.reduceLE, Int.reduceEq, Int.reduceNeg, Int.reduceBEq, Int.reduceBNe, ↓reduceIte, reduceCtorEq, hlt, pvRows, pvRows_len, g6, g7, g8, hop1, hop2, eqg70, hE, List.length_map, hb, hb0] <;> try simp (disch := omega) only [wrap_of])) | (refine And.intro ?_ ?_) | refine awp_skip ?_ | refine awp_ret ?_ | refine awp_exit ?_ | refine awp_label ?_ | refine awloop_step ?_ | fail)
                  (refine panX ?_; try exact True.intro)
          · rw [if_neg hop]
            simp only [outU]
            repeat' (first | refine awp_seq ?_ | refine awp_block ?_ | refine awp_scope ?_ | ((first | refine awp_region_k fun Kn Kp hn hp => ?_ | show AWP _ _ (Code.region 12 _ true) _ _ _; refine awp_drawn_k (id := 12) [6, 7] [] [.win [0], .win [0], .win [0], .win [0], .win [0], .win [0], .eff 0, .eff 1] 2 rfl (by as_aux_lemma => kernel_rfl) fun Kn Kp hn hp => ?_ | show AWP _ _ (Code.region 15 _ true) _ _ _; refine awp_drawn_k (id := 15) [6, 7] [] [.win [0], .win [0], .win [0], .win [0], .win [0], .win [0], .eff 0, .eff 1] 2 rfl (by as_aux_lemma => kernel_rfl) fun Kn Kp hn hp => ?_ | show AWP _ _ (Code.region 16 _ true) _ _ _; refine awp_drawn_k (id := 16) [7] [] [.win [0], .win [0], .win [0], .win [0], .win [0], .win [0], .win [0], .eff 0] 1 rfl (by as_aux_lemma => kernel_rfl) fun Kn Kp hn hp => ?_ | refine oge_intro (by assumption) ?_) <;> (simp only [go_sem, Nat.reduceAdd, Nat.reduceSub, Nat.reduceMul, Nat.reduceLeDiff, Nat.reduceLT, Nat.reduceEqDiff, Int.reduceToNat, Int.reduceAdd, Int.reduceMul, Int.reduceSub, Int.reduceLT, Int.reduceLE, Int.reduceEq, Int.reduceNeg, Int.reduceBEq, Int.reduceBNe, ↓reduceIte, reduceCtorEq, hlt, pvRows_len, List.length_map] <;> try simp (disch := omega) only [wrap_of])) | (refine hn _ _ ?_; clear hn hp Kn Kp) | (refine hp _ _ _ ?_; clear hn hp Kn Kp) | (refine awp_cond rfl (fun hb => ?_) (fun hb => ?_) <;> (try simp only [decide_eq_true_eq, decide_eq_false_iff_not, Bool.not_eq_true', Bool.not_eq_false', Bool.true_eq_false, Bool.false_eq_true, beq_iff_eq, bne_iff_ne, bne_eq_false_iff_eq, beq_eq_false_iff_ne, gt_iff_lt, ge_iff_le, Int.reduceEq, Int.reduceNe, Int.reduceLT, Int.reduceLE, ne_eq, not_true_eq_false, not_false_eq_true] at hb)) | ((first | refine awg_split (fun hb => ?_) (fun hb => ?_) | refine awsg_split (fun hb => ?_) (fun hb => ?_) | refine awe_cases (must_c _ _ _) (fun hb => ?_) (fun hb => ?_)) <;> have hb0 := hb <;> (try simp only [decide_eq_true_eq, decide_eq_false_iff_not, Bool.not_eq_true', Bool.not_eq_false', Bool.true_eq_false, Bool.false_eq_true, beq_iff_eq, bne_iff_ne, bne_eq_false_iff_eq, beq_eq_false_iff_ne, gt_iff_lt, ge_iff_le, Int.reduceEq, Int.reduceNe, Int.reduceLT, Int.reduceLE, ne_eq, not_true_eq_false, not_false_eq_true] at hb0) <;> (try simp only [beq_true, beq_false, Bool.not_eq_true', Bool.not_eq_false'] at hb) <;> (simp only [go_sem, Nat.reduceAdd, Nat.reduceSub, Nat.reduceMul, Nat.reduceLeDiff, Nat.reduceLT, Nat.reduceEqDiff, Int.reduceToNat, Int.reduceAdd, Int.reduceMul, Int.reduceSub, Int.reduceLT, Int.reduceLE, Int.reduceEq, Int.reduceNeg, Int.reduceBEq, Int.reduceBNe, ↓reduceIte, reduceCtorEq, hlt, pvRows_len, List.length_map, hb, hb0] <;> try simp (disch := omega) only [wrap_of])) | (refine And.intro ?_ ?_) | refine awp_skip ?_ | refine awp_ret ?_ | refine awp_exit ?_ | refine awp_label ?_ | refine awloop_step ?_ | fail)
            all_goals first
              | omega
              | ((refine panX ?_; try exact True.intro))
        · simp only [node, outU]
          have hne0 : (((rs.length + 3 : Nat) : Int) == 0) = false := by simp; omega
          have hne2 : (((rs.length + 3 : Nat) : Int) == 2) = false := by simp; omega
          (have rr1 := dr61_12_U7; have rr2 := dr61_15_U7; have rr3 := dr61_16_U7; have ww1 := hlt; have ww2 := @pvRows_len; have ww3 := hne0; have ww4 := hne2; have cc1 := fun z1 z2 => must_pan z1 z2; refine wk ?_; clear rr1 rr2 rr3 ww1 ww2 ww3 ww4 cc1; (repeat' first | exact True.intro | refine Lf.mk ?_ ?_); all_goals intro hP)
          (refine panX ?_; try exact True.intro)
      | cons k rest =>
        obtain ⟨hk, hlt, hd, hm⟩ := drop_cons hr
        rw [hr] at h4
        have hc := fun H0 => ih k hm H0 (by have := nodes_mem hm; omega)
        cases hik : inf vs k with
        | error x =>
          simp only [hik, outU] at hc
          simp only [infL, hik] at h4
          have hinf : inf vs e = .error x := by rw [inf_eq, h4]
          rw [hinf]
          (have rr1 := dr61_12_U7; have rr2 := dr61_15_U7; have rr3 := dr61_16_U7; have ww1 := hlt; have ww2 := hk; have ww3 := @encE_eq; have cc1 := fun z1 => hc z1; refine wk ?_; clear rr1 rr2 rr3 ww1 ww2 ww3 cc1; (repeat' first | exact True.intro | refine Lf.mk ?_ ?_); all_goals intro hP)
          (refine panX ?_; try exact True.intro)
        | ok u =>
          simp only [hik, outU] at hc
          simp only [infL, hik] at h4
          (have rr1 := dr61_12_U7; have rr2 := dr61_15_U7; have rr3 := dr61_16_U7; have ww1 := hlt; have ww2 := hk; have ww3 := @encE_eq; have ww4 := @pvRows_len; have ww5 := hf1; have ww6 := hf2; have cc1 := fun z1 => hc z1; refine wk ?_; clear rr1 rr2 rr3 ww1 ww2 ww3 ww4 ww5 ww6 cc1; (repeat' first | exact True.intro | refine Lf.mk ?_ ?_); all_goals intro hP)
          refine ⟨(i + 1, acc ++ [u]), by simp only; omega, ⟨by simp [h1], by simp only; omega, ?_, ?_⟩, ?_⟩
          · intro v hv
            rcases List.mem_append.1 hv with hv | hv
            · exact h3 v hv
            · simp only [List.mem_singleton] at hv; subst hv; exact inf_ok vs hvs k _ hik
          · simp only
            rw [hd, h4]
            cases infL vs rest <;> simp
          · refine Wk.keepE 3 1 ?_ ?_ ?_ ?_
            · simp [pvRows]
            · simp
            · simp only [List.mem_cons, List.not_mem_nil, or_false, forall_eq_or_imp, forall_eq]
              refine ⟨?_, ?_, under_pvRows _⟩
              · simp [AObj.under, AV.under]
              · simp [AObj.under, AV.under]
            · simp only [List.map_cons, List.map_nil, AV.low, Fgt, true_or, or_true, and_true, true_and]
              simp
theorem dr38_8_U8 : Drawn Try.prog 8 (regOps 8 ((Try.f38.body).getD .skip)) [6, 7, 10] [] [.win [0, 1, 2], .win [0, 1], .win [0, 1], .win [0, 1], .win [0, 1], .win [0], .eff 0, .eff 1, .win [2], .win [2], .eff 2] 3 [] := ⟨rfl, by as_aux_lemma => kernel_rfl⟩
def startAns (l : List Vr) : AV := match ksL l with
  | some vs => .tup [chk vs, .b (decide (l.length ≤ 12))]
  | none => .tup [.pv (.sc (.pointer none)), .b false]
theorem start_run (l : List Vr) (hl : l.length ≤ 1000000) (H0 : List AObj) : ARun Try.prog 38 [.rs 5 (l.map encV)] H0 (.ret (startAns l) H0) := by
  (refine ARun.intro Try.func38 rfl Try.call38 Try.ntmps38 Try.results38 ?_; simp only [List.length_cons, List.length_nil, List.length_map, Nat.reduceAdd, Nat.reduceSub, List.replicate_succ, List.replicate_zero, List.cons_append, List.nil_append])
  (refine wk ?_; (repeat' first | exact True.intro | refine Lf.mk ?_ ?_); all_goals intro hP)
  refine awp_loop_ind (σ := Nat × List Un) (fun s => l.length - s.1)
    (fun s => s.2.length = s.1 ∧ s.1 ≤ l.length ∧ ksL l = match ksL (l.drop s.1) with | some r => some (s.2 ++ r) | none => none)
    (fun s => (.rs 5 (l.map encV) :: .any :: .any :: .any :: .p H0.length 0 :: .any :: .any :: .any :: .any :: .any :: .any :: .rs 5 (l.map encV) :: .i l.length :: .i s.1 :: .any :: .any :: .any :: .any :: .any :: .any :: .any :: .any :: .any :: .any :: .any :: .any :: .any :: .any :: .any :: .any :: .any :: .any :: .any :: .any :: .any :: .any :: .any :: .any :: .any :: .any :: []))
    (fun s => H0 ++ [.cells 88 [.os (H0.length + 1) 0 s.2.length s.2.length], .arr 90 3 (pvRows (s.2.map fun u => cU u))]) (0, [])
    ⟨rfl, Nat.zero_le _, by simp only [List.drop_zero, List.nil_append]; cases ksL l <;> rfl⟩
    ?_ ?_
  · have hg := Wk.ghostO (H0 := H0) (tm := (.rs 5 (l.map encV) :: .any :: .any :: .any :: .p H0.length 0 :: .any :: .any :: .any :: .any :: .any :: .any :: .rs 5 (l.map encV) :: .i l.length :: .i 0 :: .any :: .any :: .any :: .any :: .any :: .any :: .any :: .any :: .any :: .any :: .any :: .any :: .any :: .any :: .any :: .any :: .any :: .any :: .any :: .any :: .any :: .any :: .any :: .any :: .any :: .any :: [])) (H := H0 ++ [.cells 88 [.pv (.sc (.slice none 0 0))]]) H0.length 0 90 (sz := 3) (tt := 88) (cs := [.pv (.sc (.slice none 0 0))]) (by omega) (by simp) rfl
    refine Wk.trans (tm' := (.rs 5 (l.map encV) :: .any :: .any :: .any :: .p H0.length 0 :: .any :: .any :: .any :: .any :: .any :: .any :: .rs 5 (l.map encV) :: .i l.length :: .i 0 :: .any :: .any :: .any :: .any :: .any :: .any :: .any :: .any :: .any :: .any :: .any :: .any :: .any :: .any :: .any :: .any :: .any :: .any :: .any :: .any :: .any :: .any :: .any :: .any :: .any :: .any :: [])) (by (refine fgtX ?_; try exact True.intro)) ?_
    simpa [pvRows] using hg
  · rintro ⟨i, acc⟩ ⟨h1, h2, h4⟩
    simp only at h1 h2 h4 ⊢
    have hf1 : (acc.length + 1) * 24 ≤ 140737488355328 := by omega
    have hf2 : acc.length + 1 ≤ 9223372036854775807 := by omega
    cases hr : l.drop i with
    | nil =>
      have hlt := drop_nil hr
      rw [hr] at h4
      simp only [ksL, List.append_nil] at h4
      (have rr1 := dr38_8_U8; have ww1 := hlt; refine wk ?_; clear rr1 ww1; (repeat' first | exact True.intro | refine Lf.mk ?_ ?_); all_goals intro hP)
      unfold startAns
      rw [h4]
      have e1 : AV.toPVr (H0 ++ [.cells 88 [.os (H0.length + 1) 0 acc.length acc.length], .arr 90 3 (pvRows (acc.map fun u => cU u))]) H0.length 1 [.os (H0.length + 1) 0 acc.length acc.length] = some [.rs 3 (acc.map fun u => cU u)] := by
        have e2 : ((pvRows (acc.map fun u => cU u)).drop 0).take acc.length = pvRows (acc.map fun u => cU u) := by
          rw [List.drop_zero, List.take_of_length_le (by simp [pvRows])]
        simp only [AV.toPVr, AV.toPV, getOk, List.getElem?_cons_succ, List.getElem?_cons_zero, pvRows_len, List.length_map, true_and, show H0.length ≤ H0.length + 1 from by omega, if_true, e2]
        simp only [pvRows, toPVs_pvs, Option.map_some]
      (refine resX ?_; try exact True.intro)
      simp only [getO0, e1, List.drop_zero]
      have : decide (l.length ≤ 12) = decide ((l.length : Int) ≤ 12) := by
        apply decide_eq_decide.2; omega
      rw [this]
    | cons k rest =>
      obtain ⟨hk, hlt, hd, hm⟩ := drop_cons hr
      rw [hr] at h4
      cases hik : ofK k.unit with
      | none =>
        simp only [ksL, hik] at h4
        (have rr1 := dr38_8_U8; have ww1 := hlt; have ww2 := hk; have ww3 := @encV_eq; have ww4 := @ofAns.eq_1; have ww5 := hik; have cc1 := fun z1 z2 => of_run z1 z2; refine wk ?_; clear rr1 ww1 ww2 ww3 ww4 ww5 cc1; (repeat' first | exact True.intro | refine Lf.mk ?_ ?_); all_goals intro hP)
        unfold startAns
        rw [h4]
        (refine resX ?_; try exact True.intro)
      | some u =>
        simp only [ksL, hik] at h4
        (have rr1 := dr38_8_U8; have ww1 := hlt; have ww2 := hk; have ww3 := @encV_eq; have ww4 := @ofAns.eq_1; have ww5 := hik; have ww6 := @pvRows_len; have ww7 := hf1; have ww8 := hf2; have cc1 := fun z1 z2 => of_run z1 z2; refine wk ?_; clear rr1 ww1 ww2 ww3 ww4 ww5 ww6 ww7 ww8 cc1; (repeat' first | exact True.intro | refine Lf.mk ?_ ?_); all_goals intro hP)
        refine ⟨(i + 1, acc ++ [u]), by simp only; omega, ⟨by simp [h1], by simp only; omega, ?_⟩, ?_⟩
        · simp only
          rw [hd, h4]
          cases ksL rest <;> simp
        · refine Wk.keepE 2 1 ?_ ?_ ?_ ?_
          · simp [pvRows]
          · simp
          · simp only [List.mem_cons, List.not_mem_nil, or_false, forall_eq_or_imp, forall_eq]
            refine ⟨?_, under_pvRows _⟩
            simp [AObj.under, AV.under]
          · simp only [List.map_cons, List.map_nil, AV.low, Fgt, true_or, or_true, and_true, true_and]
            simp
theorem undAny : Try.prog.underlying 20 = some (.interface (Try.prog.methodsAt 20)) := by kernel_rfl
theorem undErr : Try.prog.underlying 23 = some (.int .i64) := by kernel_rfl
theorem caught_none (id : Nat) (H : List AObj) : ARunD Try.prog 46 [.p id 0] H none H := by
  refine ARunD.intro Try.func46 rfl Try.call46 Try.ntmps46 Try.results46 ?_
  simp only [List.length_cons, List.length_nil, Nat.reduceAdd, Nat.reduceSub, List.replicate_succ, List.replicate_zero, List.cons_append, List.nil_append, UM.of]
  refine awps_seq ?_
  refine awps_region ?_
  simp only [AWLS, isRecover, if_true, Bool.false_eq_true, if_false, aput, aStep, aev, List.set_cons_zero, List.set_cons_succ, List.getElem?_cons_zero, List.getElem?_cons_succ, Option.getD_some]
  refine awps_seq ?_
  refine awps_region ?_
  simp only [AWLS, isRecover, if_true, Bool.false_eq_true, if_false, aput, aStep, aev, List.set_cons_zero, List.set_cons_succ, List.getElem?_cons_zero, List.getElem?_cons_succ, Option.getD_some, AV.ofV, aEqStep, aEq, AV.sc]
  refine ⟨rfl, .bool false, fun w => ?_, ?_⟩
  · simp [execOp, aRho, aev, AV.conc, eqGuard, binOp, Op.equal, Op.maxDepth, AV.ofV, AV.sc, run_equalIn_nil_nil w 9999 20 undAny]
  · refine awps_cond rfl (fun hb => by cases hb) (fun _ => ?_)
    refine awps_skip ?_
    refine ⟨⟨_, rfl⟩, ⟨H.length, ⟨Nat.le_refl _, Nat.le_refl _, fun id o hid ho => .inl ho⟩, by simp⟩, trivial⟩
theorem caught_pan (id : Nat) (H : List AObj) (x y : Int) (hid : H[id]? = some (.cells 23 [.i y])) : ARunD Try.prog 46 [.p id 0] H (some (.pv (.sc (.iface 23 (.int .i64 x))))) (H.set id (.cells 23 [.i x])) := by
  have hlt := (List.getElem?_eq_some_iff.1 hid).1
  refine ARunD.intro Try.func46 rfl Try.call46 Try.ntmps46 Try.results46 ?_
  simp only [List.length_cons, List.length_nil, Nat.reduceAdd, Nat.reduceSub, List.replicate_succ, List.replicate_zero, List.cons_append, List.nil_append, UM.of]
  refine awps_seq ?_
  refine awps_region ?_
  simp only [AWLS, isRecover, if_true, Bool.false_eq_true, if_false, aput, aStep, aev, List.set_cons_zero, List.set_cons_succ, List.getElem?_cons_zero, List.getElem?_cons_succ, Option.getD_some]
  refine awps_seq ?_
  refine awps_region ?_
  simp only [AWLS, isRecover, if_true, Bool.false_eq_true, if_false, aput, aStep, aev, List.set_cons_zero, List.set_cons_succ, List.getElem?_cons_zero, List.getElem?_cons_succ, Option.getD_some, AV.ofV, aEqStep, aEq, AV.sc]
  refine ⟨rfl, .bool true, fun w => ?_, ?_⟩
  · simp [execOp, aRho, aev, AV.conc, eqGuard, binOp, Op.equal, Op.maxDepth, AV.ofV, AV.sc, run_equalIn_held_nil w 9999 20 23 _ undAny]
  · refine awps_cond rfl (fun _ => ?_) (fun hb => by cases hb)
    refine awps_region ?_
    simp only [AWLS, isRecover, if_true, Bool.false_eq_true, if_false, aput, aStep, aev, List.set_cons_zero, List.set_cons_succ, List.getElem?_cons_zero, List.getElem?_cons_succ, Option.getD_some, AV.ofV, AV.sc]
    refine ⟨rfl, .int .i64 x, fun w => ?_, ?_⟩
    · simp [execOp, aRho, aev, AV.conc, AV.ofV, AV.sc, Instr.typeAssert, run_underlying undErr]
    · simp only [hid, go_sem, Nat.reduceAdd, Nat.reduceSub, Nat.reduceMul, Nat.reduceLeDiff, Nat.reduceLT, Nat.reduceEqDiff, Int.reduceToNat, Int.reduceAdd, Int.reduceMul, Int.reduceSub, Int.reduceLT, Int.reduceLE, Int.reduceEq, Int.reduceNeg, Int.reduceBEq, Int.reduceBNe, ↓reduceIte, reduceCtorEq]
      have hd : Droppable H (H.set id (.cells 23 [.i x])) H.length := by
        refine ⟨Nat.le_refl _, by rw [List.length_set]; exact Nat.le_refl _, fun id' o hid' ho => ?_⟩
        by_cases e : id = id'
        · subst e
          rw [List.getElem?_set_self hlt] at ho
          simp only [Option.some.injEq] at ho
          subst ho
          refine .inr ?_
          intro c hc
          simp only [List.mem_cons, List.not_mem_nil, or_false] at hc
          subst hc
          simp only [AV.under]
        · rw [List.getElem?_set_ne e] at ho; exact .inl ho
      exact ⟨⟨_, rfl⟩, ⟨H.length, hd, by rw [List.take_of_length_le (by rw [List.length_set]; exact Nat.le_refl _)]⟩, trivial⟩
def outB (x : Int) (b : Bool) (H : List AObj) : AOut := match b with
  | true => .ret (.tup []) H
  | false => .pan (.pv (.sc (.iface 23 (.int .i64 x)))) H
theorem small_run : ∀ (N : Nat) (l : List St), manyL l ≤ N → manyL l ≤ 900000 → fineL l → ∀ (H0 : List AObj), ARun Try.prog 50 [.rs 13 (l.map encS)] H0 (outB 2 (smSL l) H0) := by
  intro N
  induction N with
  | zero =>
    intro l hN _ _ H0
    have hl : l = [] := by have := len_manyL l; exact List.eq_nil_of_length_eq_zero (by omega)
    subst hl
    simp only [smSL, outB]
    (refine ARun.intro Try.func50 rfl Try.call50 Try.ntmps50 Try.results50 ?_; simp only [List.length_cons, List.length_nil, List.length_map, Nat.reduceAdd, Nat.reduceSub, List.replicate_succ, List.replicate_zero, List.cons_append, List.nil_append])
    (refine wk ?_; (repeat' first | exact True.intro | refine Lf.mk ?_ ?_); all_goals intro hP)
    refine awp_loop 1 ?_
    (refine wk ?_; (repeat' first | exact True.intro | refine Lf.mk ?_ ?_); all_goals intro hP)
    (refine resX ?_; try exact True.intro)
  | succ N ihN =>
    intro l hN hM hF H0
    have hlen := len_manyL l
    (refine ARun.intro Try.func50 rfl Try.call50 Try.ntmps50 Try.results50 ?_; simp only [List.length_cons, List.length_nil, List.length_map, Nat.reduceAdd, Nat.reduceSub, List.replicate_succ, List.replicate_zero, List.cons_append, List.nil_append])
    (refine wk ?_; (repeat' first | exact True.intro | refine Lf.mk ?_ ?_); all_goals intro hP)
    refine awp_loop_ind (σ := Nat) (fun s => l.length - s) (fun s => s ≤ l.length ∧ smSL l = smSL (l.drop s))
      (fun s => (.any :: .any :: .any :: .any :: .rs 13 (l.map encS) :: .i l.length :: .i s :: .any :: .any :: .any :: .any :: .any :: .any :: .any :: .any :: .any :: .any :: .any :: .any :: .any :: .any :: .any :: .any :: .any :: .any :: .any :: .any :: .any :: .any :: .any :: .any :: []))
      (fun s => H0) 0 ⟨Nat.zero_le _, by simp⟩ (by (refine fgtX ?_; try exact True.intro)) ?_
    rintro i ⟨h1, h4⟩
    cases hr : l.drop i with
    | nil =>
      have hlt := drop_nil hr
      rw [hr] at h4
      simp only [smSL] at h4
      rw [h4]
      simp only [outB]
      (have ww1 := hlt; refine wk ?_; clear ww1; (repeat' first | exact True.intro | refine Lf.mk ?_ ?_); all_goals intro hP)
      (refine resX ?_; try exact True.intro)
    | cons k rest =>
      obtain ⟨hk, hlt, hd, hm⟩ := drop_cons hr
      have hfk := fineL_mem hF hm
      have hfi := fine_inner hfk
      rw [fine_eq] at hfk
      have hmm := manyL_mem hm
      have hli := len_manyL (innerL k)
      rw [hr] at h4
      simp only [smSL] at h4
      rw [smS_eq] at h4
      have hca := fun H0 => count_run (nodesL [k.a]) [k.a] (Nat.le_refl _) (by simp only [nodesL]; omega) 60 H0 (by omega) (by omega)
      have hcb := fun H0 => count_run (nodesL [k.b]) [k.b] (Nat.le_refl _) (by simp only [nodesL]; omega) 60 H0 (by omega) (by omega)
      have hca1 := cnt1 k.a 60 (by omega)
      have hcb1 := cnt1 k.b 60 (by omega)
      simp only [List.map_cons, List.map_nil, encE_eq] at hca hcb
      have hin := fun H0 => inner_run k H0 (by omega)
      have hrec := fun H0 => ihN (innerL k) (by omega) (by omega) hfi H0
      by_cases hA : nodes k.a ≤ 60
      · have ha : cntEL [k.a] 60 0 ≤ 60 := by
          rcases Int.lt_or_le 60 (cntEL [k.a] 60 0) with h | h
          · have := hca1.1 h; omega
          · exact h
        by_cases h2 : k.kind = 2
        · simp only [cS, h2] at hin
          by_cases hB : nodes k.b ≤ 60
          · have hb2 : cntEL [k.b] 60 0 ≤ 60 := by
              rcases Int.lt_or_le 60 (cntEL [k.b] 60 0) with h | h
              · have := hcb1.1 h; omega
              · exact h
            simp only [hA, hB, h2, decide_true, if_true, Bool.true_and] at h4
            cases hI : smSL (innerL k) with
            | true =>
              simp only [hI, Bool.true_and, outB] at h4 hrec
              (have ww1 := hlt; have ww2 := hk; have ww3 := @encS_eq; have ww4 := ha; have ww5 := hb2; have ww6 := h2; have dd1 := hca []; have dd2 := hcb []; have cc1 := fun z1 z2 => must_run z1 z2; have cc2 := fun z1 => hin z1; have cc3 := fun z1 => hrec z1; refine wk ?_; clear ww1 ww2 ww3 ww4 ww5 ww6 dd1 dd2 cc1 cc2 cc3; (repeat' first | exact True.intro | refine Lf.mk ?_ ?_); all_goals intro hP)
              refine ⟨i + 1, by omega, ⟨by omega, by rw [hd]; exact h4⟩, ?_⟩
              (refine dropX ?_; try exact True.intro)
              all_goals simp
            | false =>
              simp only [hI, Bool.false_and, outB] at h4 hrec
              rw [h4]
              simp only [outB]
              (have ww1 := hlt; have ww2 := hk; have ww3 := @encS_eq; have ww4 := ha; have ww5 := hb2; have ww6 := h2; have dd1 := hca []; have dd2 := hcb []; have cc1 := fun z1 z2 => must_run z1 z2; have cc2 := fun z1 => hin z1; have cc3 := fun z1 => hrec z1; refine wk ?_; clear ww1 ww2 ww3 ww4 ww5 ww6 dd1 dd2 cc1 cc2 cc3; (repeat' first | exact True.intro | refine Lf.mk ?_ ?_); all_goals intro hP)
              (refine panX ?_; try exact True.intro)
          · have hb2 : ¬ cntEL [k.b] 60 0 ≤ 60 := by
              have := hcb1.2 (by omega)
              omega
            simp only [hA, hB, h2, decide_true, decide_false, if_true, Bool.false_and, Bool.and_false] at h4
            rw [h4]
            simp only [outB]
            (have ww1 := hlt; have ww2 := hk; have ww3 := @encS_eq; have ww4 := ha; have ww5 := hb2; have ww6 := h2; have dd1 := hca []; have dd2 := hcb []; have cc1 := fun z1 z2 => must_run z1 z2; have cc2 := fun z1 z2 => must_pan z1 z2; refine wk ?_; clear ww1 ww2 ww3 ww4 ww5 ww6 dd1 dd2 cc1 cc2; (repeat' first | exact True.intro | refine Lf.mk ?_ ?_); all_goals intro hP)
            (refine panX ?_; try exact True.intro)
        · have h2' : (k.kind != 2) = true := by simpa using h2
          simp only [hA, h2, decide_true, if_false, Bool.true_and] at h4
          cases hI : smSL (innerL k) with
          | true =>
            simp only [hI, Bool.true_and, outB] at h4 hrec
            (have ww1 := hlt; have ww2 := hk; have ww3 := @encS_eq; have ww4 := ha; have ww5 := h2'; have dd1 := hca []; have cc1 := fun z1 z2 => must_run z1 z2; have cc2 := fun z1 => hin z1; have cc3 := fun z1 => hrec z1; refine wk ?_; clear ww1 ww2 ww3 ww4 ww5 dd1 cc1 cc2 cc3; (repeat' first | exact True.intro | refine Lf.mk ?_ ?_); all_goals intro hP)
            refine ⟨i + 1, by omega, ⟨by omega, by rw [hd]; exact h4⟩, ?_⟩
            (refine dropX ?_; try exact True.intro)
            all_goals simp
          | false =>
            simp only [hI, Bool.false_and, outB] at h4 hrec
            rw [h4]
            simp only [outB]
            (have ww1 := hlt; have ww2 := hk; have ww3 := @encS_eq; have ww4 := ha; have ww5 := h2'; have dd1 := hca []; have cc1 := fun z1 z2 => must_run z1 z2; have cc2 := fun z1 => hin z1; have cc3 := fun z1 => hrec z1; refine wk ?_; clear ww1 ww2 ww3 ww4 ww5 dd1 cc1 cc2 cc3; (repeat' first | exact True.intro | refine Lf.mk ?_ ?_); all_goals intro hP)
            (refine panX ?_; try exact True.intro)
      · have ha : ¬ cntEL [k.a] 60 0 ≤ 60 := by
          have := hca1.2 (by omega)
          omega
        simp only [hA, decide_false, Bool.false_and] at h4
        rw [h4]
        simp only [outB]
        (have ww1 := hlt; have ww2 := hk; have ww3 := @encS_eq; have ww4 := ha; have dd1 := hca []; have cc1 := fun z1 z2 => must_pan z1 z2; refine wk ?_; clear ww1 ww2 ww3 ww4 dd1 cc1; (repeat' first | exact True.intro | refine Lf.mk ?_ ?_); all_goals intro hP)
        (refine panX ?_; try exact True.intro)
theorem dr51_6_U13 : Drawn Try.prog 6 (regOps 6 ((Try.f51.body).getD .skip)) [13] [] [.win [0], .win [0], .win [0], .win [0], .win [0], .win [0], .win [0], .win [0], .win [0], .win [0], .win [0], .win [0], .win [0], .eff 0] 1 [] := ⟨rfl, by as_aux_lemma => kernel_rfl⟩
theorem dr51_7_U13 : Drawn Try.prog 7 (regOps 7 ((Try.f51.body).getD .skip)) [3, 13] [] [.win [0], .win [0], .win [0], .eff 0, .win [0, 1], .win [0, 1], .win [0, 1], .win [0, 1], .win [0, 1], .win [0, 1], .win [0, 1], .win [0, 1], .win [1], .eff 1] 2 [] := ⟨rfl, by as_aux_lemma => kernel_rfl⟩
theorem dr51_11_U13 : Drawn Try.prog 11 (regOps 11 ((Try.f51.body).getD .skip)) [4, 6] [] [.win [0, 1], .win [0], .win [0], .win [0], .eff 0, .win [1], .eff 1] 2 [] := ⟨rfl, by as_aux_lemma => kernel_rfl⟩
def outE (x : Int) (H : List AObj) : AOut := if x = 0 then .ret (.tup []) H else .pan (.pv (.sc (.iface 23 (.int .i64 x)))) H
theorem stmts_run (vs : List Un) (hvs : ∀ u ∈ vs, u.ok) : ∀ (N : Nat) (l : List St), totL l ≤ N → fineL l → ∀ (H0 : List AObj), ARun Try.prog 51 [chk vs, .rs 13 (l.map encS)] H0 (outE (stSL vs l) H0) := by
  intro N
  induction N with
  | zero =>
    intro l hN _ H0
    have hl : l = [] := by have := len_totL l; exact List.eq_nil_of_length_eq_zero (by omega)
    subst hl
    simp only [stSL, outE, if_true]
    (refine ARun.intro Try.func51 rfl Try.call51 Try.ntmps51 Try.results51 ?_; simp only [List.length_cons, List.length_nil, List.length_map, Nat.reduceAdd, Nat.reduceSub, List.replicate_succ, List.replicate_zero, List.cons_append, List.nil_append])
    (refine wk ?_; (repeat' first | exact True.intro | refine Lf.mk ?_ ?_); all_goals intro hP)
    refine awp_loop 1 ?_
    (have rr1 := dr51_6_U13; have rr2 := dr51_7_U13; have rr3 := dr51_11_U13; refine wk ?_; clear rr1 rr2 rr3; (repeat' first | exact True.intro | refine Lf.mk ?_ ?_); all_goals intro hP)
    (refine resX ?_; try exact True.intro)
  | succ N ihN =>
    intro l hN hF H0
    (refine ARun.intro Try.func51 rfl Try.call51 Try.ntmps51 Try.results51 ?_; simp only [List.length_cons, List.length_nil, List.length_map, Nat.reduceAdd, Nat.reduceSub, List.replicate_succ, List.replicate_zero, List.cons_append, List.nil_append])
    refine awp_len 1 rfl fun hlen => ?_
    rw [List.length_map] at hlen
    (refine wk ?_; (repeat' first | exact True.intro | refine Lf.mk ?_ ?_); all_goals intro hP)
    refine awp_loop_ind (σ := Nat) (fun s => l.length - s) (fun s => s ≤ l.length ∧ stSL vs l = stSL vs (l.drop s))
      (fun s => (chk vs :: .any :: .any :: .any :: .any :: .any :: .any :: .rs 13 (l.map encS) :: .i l.length :: .i s :: .any :: .any :: .any :: .any :: .any :: .any :: .any :: .any :: .any :: .any :: .any :: .any :: .any :: .any :: .any :: .any :: .any :: .any :: .any :: .any :: .any :: .any :: .any :: .any :: .any :: .any :: .any :: .any :: .any :: .any :: .any :: .any :: .any :: .any :: .any :: .any :: .any :: .any :: .any :: .any :: .any :: .any :: .any :: .any :: .any :: .any :: .any :: .any :: .any :: .any :: .any :: .any :: .any :: .any :: .any :: .any :: .any :: .any :: .any :: .any :: .any :: .any :: .any :: .any :: .any :: .any :: .any :: []))
      (fun s => H0) 0 ⟨Nat.zero_le _, by simp⟩ (by (refine fgtX ?_; try exact True.intro)) ?_
    rintro i ⟨h1, h4⟩
    cases hr : l.drop i with
    | nil =>
      have hlt := drop_nil hr
      rw [hr] at h4
      simp only [stSL] at h4
      rw [h4]
      simp only [outE, if_true]
      (have rr1 := dr51_6_U13; have rr2 := dr51_7_U13; have rr3 := dr51_11_U13; have ww1 := hlt; refine wk ?_; clear rr1 rr2 rr3 ww1; (repeat' first | exact True.intro | refine Lf.mk ?_ ?_); all_goals intro hP)
      (refine resX ?_; try exact True.intro)
    | cons k rest =>
      obtain ⟨hk, hlt, hd, hm⟩ := drop_cons hr
      have hfk := fineL_mem hF hm
      rw [fine_eq] at hfk
      have hmm := totL_mem hm
      rw [tot_eq] at hmm
      rw [hr] at h4
      simp only [stSL] at h4
      rw [stS_eq] at h4
      have ha := fun H0 => infer_run vs hvs k.a H0 (by omega)
      have hb0 := fun H0 => infer_run vs hvs k.b H0 (by omega)
      have ht := fun H0 => ihN k.thn (by omega) hfk.2.2.1 H0
      have he := fun H0 => ihN k.els (by omega) hfk.2.2.2 H0
      by_cases h1k : k.kind = 1
      · simp only [h1k, if_true] at h4
        by_cases hv0 : 0 ≤ k.var
        · simp only [hv0, if_true] at h4
          cases hv : vs[k.var.toNat]? with
          | none =>
            have hlv : ¬ k.var < vs.length := by rw [List.getElem?_eq_none_iff] at hv; omega
            simp only [hv] at h4
            simp only [show (1 : Int) ≠ 0 from by decide, if_false] at h4
            rw [h4]
            simp only [outE, show (1 : Int) ≠ 0 from by decide, if_false]
            repeat' (first | refine awp_seq ?_ | refine awp_block ?_ | refine awp_scope ?_ | ((first | refine awp_region_k fun Kn Kp hn hp => ?_ | show AWP _ _ (Code.region 6 _ true) _ _ _; refine awp_drawn_k (id := 6) [13] [13] [.win [0], .win [0], .win [0], .win [0], .win [0], .win [0], .win [0], .win [0], .win [0], .win [0], .win [0], .win [0], .win [0], .pan [0]] 1 rfl (by as_aux_lemma => kernel_rfl) fun Kn Kp hn hp => ?_ | show AWP _ _ (Code.region 7 _ true) _ _ _; refine awp_drawn_k (id := 7) [3, 13] [] [.win [0], .win [0], .win [0], .eff 0, .win [0, 1], .win [0, 1], .win [0, 1], .win [0, 1], .win [0, 1], .win [0, 1], .win [0, 1], .win [0, 1], .win [1], .eff 1] 2 rfl (by as_aux_lemma => kernel_rfl) fun Kn Kp hn hp => ?_ | show AWP _ _ (Code.region 11 _ true) _ _ _; refine awp_drawn_k (id := 11) [4, 6] [] [.win [0, 1], .win [0], .win [0], .win [0], .eff 0, .win [1], .eff 1] 2 rfl (by as_aux_lemma => kernel_rfl) fun Kn Kp hn hp => ?_ | refine oge_intro (by assumption) ?_ | (show AWE _ _ _ _ _ _ _ _ _; first | refine awe_intro (must_pan _ _) ?_) | (show AWSF _ _ _ _ _ _ _ _ _ _ _; first | refine awsf_intro (must_pan _ _) (fun hrun => ?_)) | (show OGE _ _ _ _ _ _ _; first | refine oge_intro (must_pan _ _) ?_) | (show AWSE _ _ _ _ _ _ _ _ _ _ _; first | refine awse_intro (must_pan _ _) (fun hrun => ?_)) | (show PGE _ _ _ _ _; first | refine pge_intro (must_pan _ _) (fun tm' => ?_))) <;> (simp only [go_sem, Nat.reduceAdd, Nat.reduceSub, Nat.reduceMul, Nat.reduceLeDiff, Nat.reduceLT, Nat.reduceEqDiff, Int.reduceToNat, Int.reduceAdd, Int.reduceMul, Int.reduceSub, Int.reduceLT, Int.reduceLE, Int.reduceEq, Int.reduceNeg, Int.reduceBEq, Int.reduceBNe, ↓reduceIte, reduceCtorEq, hlt, hk, encS_eq, h1k, hv0, hlv] <;> try simp (disch := omega) only [wrap_of])) | (refine hn _ _ ?_; clear hn hp Kn Kp) | (refine hp _ _ _ ?_; clear hn hp Kn Kp) | (refine awp_cond rfl (fun hb => ?_) (fun hb => ?_) <;> (try simp only [decide_eq_true_eq, decide_eq_false_iff_not, Bool.not_eq_true', Bool.not_eq_false', Bool.true_eq_false, Bool.false_eq_true, beq_iff_eq, bne_iff_ne, bne_eq_false_iff_eq, beq_eq_false_iff_ne, gt_iff_lt, ge_iff_le, Int.reduceEq, Int.reduceNe, Int.reduceLT, Int.reduceLE, ne_eq, not_true_eq_false, not_false_eq_true] at hb)) | ((first | refine awg_split (fun hb => ?_) (fun hb => ?_) | refine awsg_split (fun hb => ?_) (fun hb => ?_)) <;> have hb0 := hb <;> (try simp only [decide_eq_true_eq, decide_eq_false_iff_not, Bool.not_eq_true', Bool.not_eq_false', Bool.true_eq_false, Bool.false_eq_true, beq_iff_eq, bne_iff_ne, bne_eq_false_iff_eq, beq_eq_false_iff_ne, gt_iff_lt, ge_iff_le, Int.reduceEq, Int.reduceNe, Int.reduceLT, Int.reduceLE, ne_eq, not_true_eq_false, not_false_eq_true] at hb0) <;> (try simp only [beq_true, beq_false, Bool.not_eq_true', Bool.not_eq_false'] at hb) <;> (simp only [go_sem, Nat.reduceAdd, Nat.reduceSub, Nat.reduceMul, Nat.reduceLeDiff, Nat.reduceLT, Nat.reduceEqDiff, Int.reduceToNat, Int.reduceAdd, Int.reduceMul, Int.reduceSub, Int.reduceLT, Int.reduceLE, Int.reduceEq, Int.reduceNeg, Int.reduceBEq, Int.reduceBNe, ↓reduceIte, reduceCtorEq, hlt, hk, encS_eq, h1k, hv0, hlv, hb, hb0] <;> try simp (disch := omega) only [wrap_of])) | (refine And.intro ?_ ?_) | refine awp_skip ?_ | refine awp_ret ?_ | refine awp_exit ?_ | refine awp_label ?_ | refine awloop_step ?_ | fail)
            (refine panX ?_; try exact True.intro)
          | some w =>
            have hlv : k.var < vs.length := by have := (List.getElem?_eq_some_iff.1 hv).1; omega
            simp only [hv] at h4
            cases hi : inf vs k.a with
            | error x =>
              have hx := inf_err vs k.a x hi
              have hx0 : x ≠ 0 := by omega
              simp only [hi, hx0, if_false] at h4
              simp only [hi, outU] at ha
              rw [h4]
              simp only [outE, hx0, if_false]
              repeat' (first | refine awp_seq ?_ | refine awp_block ?_ | refine awp_scope ?_ | ((first | refine awp_region_k fun Kn Kp hn hp => ?_ | show AWP _ _ (Code.region 6 _ true) _ _ _; refine awp_drawn_k (id := 6) [13] [] [.win [0], .win [0], .win [0], .win [0], .win [0], .win [0], .win [0], .win [0], .win [0], .win [0], .win [0], .win [0], .win [0], .eff 0] 1 rfl (by as_aux_lemma => kernel_rfl) fun Kn Kp hn hp => ?_ | show AWP _ _ (Code.region 7 _ true) _ _ _; refine awp_drawn_k (id := 7) [3, 13] [3] [.win [0], .win [0], .win [0], .pan [0], .win [0, 1], .win [0, 1], .win [0, 1], .win [0, 1], .win [0, 1], .win [0, 1], .win [0, 1], .win [0, 1], .skip, .skip] 2 rfl (by as_aux_lemma => kernel_rfl) fun Kn Kp hn hp => ?_ | show AWP _ _ (Code.region 11 _ true) _ _ _; refine awp_drawn_k (id := 11) [4, 6] [] [.win [0, 1], .win [0], .win [0], .win [0], .eff 0, .win [1], .eff 1] 2 rfl (by as_aux_lemma => kernel_rfl) fun Kn Kp hn hp => ?_ | refine oge_intro (by assumption) ?_ | (show AWE _ _ _ _ _ _ _ _ _; first | refine awe_intro (must_run _ _) ?_ | refine awe_intro (ha _) ?_) | (show AWSF _ _ _ _ _ _ _ _ _ _ _; first | refine awsf_intro (must_run _ _) (fun hrun => ?_) | refine awsf_intro (ha _) (fun hrun => ?_)) | (show OGE _ _ _ _ _ _ _; first | refine oge_intro (must_run _ _) ?_ | refine oge_intro (ha _) ?_) | (show AWSE _ _ _ _ _ _ _ _ _ _ _; first | refine awse_intro (must_run _ _) (fun hrun => ?_) | refine awse_intro (ha _) (fun hrun => ?_)) | (show PGE _ _ _ _ _; first | refine pge_intro (must_run _ _) (fun tm' => ?_) | refine pge_intro (ha _) (fun tm' => ?_))) <;> (simp only [go_sem, Nat.reduceAdd, Nat.reduceSub, Nat.reduceMul, Nat.reduceLeDiff, Nat.reduceLT, Nat.reduceEqDiff, Int.reduceToNat, Int.reduceAdd, Int.reduceMul, Int.reduceSub, Int.reduceLT, Int.reduceLE, Int.reduceEq, Int.reduceNeg, Int.reduceBEq, Int.reduceBNe, ↓reduceIte, reduceCtorEq, hlt, hk, encS_eq, h1k, hv0, hlv, hv] <;> try simp (disch := omega) only [wrap_of])) | (refine hn _ _ ?_; clear hn hp Kn Kp) | (refine hp _ _ _ ?_; clear hn hp Kn Kp) | (refine awp_cond rfl (fun hb => ?_) (fun hb => ?_) <;> (try simp only [decide_eq_true_eq, decide_eq_false_iff_not, Bool.not_eq_true', Bool.not_eq_false', Bool.true_eq_false, Bool.false_eq_true, beq_iff_eq, bne_iff_ne, bne_eq_false_iff_eq, beq_eq_false_iff_ne, gt_iff_lt, ge_iff_le, Int.reduceEq, Int.reduceNe, Int.reduceLT, Int.reduceLE, ne_eq, not_true_eq_false, not_false_eq_true] at hb)) | ((first | refine awg_split (fun hb => ?_) (fun hb => ?_) | refine awsg_split (fun hb => ?_) (fun hb => ?_)) <;> have hb0 := hb <;> (try simp only [decide_eq_true_eq, decide_eq_false_iff_not, Bool.not_eq_true', Bool.not_eq_false', Bool.true_eq_false, Bool.false_eq_true, beq_iff_eq, bne_iff_ne, bne_eq_false_iff_eq, beq_eq_false_iff_ne, gt_iff_lt, ge_iff_le, Int.reduceEq, Int.reduceNe, Int.reduceLT, Int.reduceLE, ne_eq, not_true_eq_false, not_false_eq_true] at hb0) <;> (try simp only [beq_true, beq_false, Bool.not_eq_true', Bool.not_eq_false'] at hb) <;> (simp only [go_sem, Nat.reduceAdd, Nat.reduceSub, Nat.reduceMul, Nat.reduceLeDiff, Nat.reduceLT, Nat.reduceEqDiff, Int.reduceToNat, Int.reduceAdd, Int.reduceMul, Int.reduceSub, Int.reduceLT, Int.reduceLE, Int.reduceEq, Int.reduceNeg, Int.reduceBEq, Int.reduceBNe, ↓reduceIte, reduceCtorEq, hlt, hk, encS_eq, h1k, hv0, hlv, hv, hb, hb0] <;> try simp (disch := omega) only [wrap_of])) | (refine And.intro ?_ ?_) | refine awp_skip ?_ | refine awp_ret ?_ | refine awp_exit ?_ | refine awp_label ?_ | refine awloop_step ?_ | fail)
              (refine panX ?_; try exact True.intro)
            | ok u =>
              simp only [hi, outU] at ha
              simp only [hi] at h4
              by_cases huw : u = w
              · subst huw
                simp only [if_true] at h4
                (have rr1 := dr51_6_U13; have rr2 := dr51_7_U13; have rr3 := dr51_11_U13; have ww1 := hlt; have ww2 := hk; have ww3 := @encS_eq; have ww4 := h1k; have ww5 := hv0; have ww6 := hlv; have ww7 := hv; have ww8 := @eqg70; have cc1 := fun z1 z2 => must_run z1 z2; have cc2 := fun z1 => ha z1; refine wk ?_; clear rr1 rr2 rr3 ww1 ww2 ww3 ww4 ww5 ww6 ww7 ww8 cc1 cc2; (repeat' first | exact True.intro | refine Lf.mk ?_ ?_); all_goals intro hP)
                refine ⟨i + 1, by omega, ⟨by omega, by rw [hd]; exact h4⟩, ?_⟩
                (refine dropX ?_; try exact True.intro)
                all_goals simp [wrap_of (n := (i : Int) + 1) (by omega) (by omega)]
              · have hE := eqU u w
                rw [decide_eq_false huw] at hE
                simp only [huw, if_false, show (13 : Int) ≠ 0 from by decide] at h4
                rw [h4]
                simp only [outE, show (13 : Int) ≠ 0 from by decide, if_false]
                repeat' (first | refine awp_seq ?_ | refine awp_block ?_ | refine awp_scope ?_ | ((first | refine awp_region_k fun Kn Kp hn hp => ?_ | show AWP _ _ (Code.region 6 _ true) _ _ _; refine awp_drawn_k (id := 6) [13] [] [.win [0], .win [0], .win [0], .win [0], .win [0], .win [0], .win [0], .win [0], .win [0], .win [0], .win [0], .win [0], .win [0], .eff 0] 1 rfl (by as_aux_lemma => kernel_rfl) fun Kn Kp hn hp => ?_ | show AWP _ _ (Code.region 7 _ true) _ _ _; refine awp_drawn_k (id := 7) [3, 13] [13] [.win [0], .win [0], .win [0], .eff 0, .win [0, 1], .win [0, 1], .win [0, 1], .win [0, 1], .win [0, 1], .win [0, 1], .win [0, 1], .win [0, 1], .win [1], .pan [1]] 2 rfl (by as_aux_lemma => kernel_rfl) fun Kn Kp hn hp => ?_ | show AWP _ _ (Code.region 11 _ true) _ _ _; refine awp_drawn_k (id := 11) [4, 6] [] [.win [0, 1], .win [0], .win [0], .win [0], .eff 0, .win [1], .eff 1] 2 rfl (by as_aux_lemma => kernel_rfl) fun Kn Kp hn hp => ?_ | refine oge_intro (by assumption) ?_ | (show AWE _ _ _ _ _ _ _ _ _; first | refine awe_intro (must_run _ _) ?_ | refine awe_intro (must_pan _ _) ?_ | refine awe_intro (ha _) ?_) | (show AWSF _ _ _ _ _ _ _ _ _ _ _; first | refine awsf_intro (must_run _ _) (fun hrun => ?_) | refine awsf_intro (must_pan _ _) (fun hrun => ?_) | refine awsf_intro (ha _) (fun hrun => ?_)) | (show OGE _ _ _ _ _ _ _; first | refine oge_intro (must_run _ _) ?_ | refine oge_intro (must_pan _ _) ?_ | refine oge_intro (ha _) ?_) | (show AWSE _ _ _ _ _ _ _ _ _ _ _; first | refine awse_intro (must_run _ _) (fun hrun => ?_) | refine awse_intro (must_pan _ _) (fun hrun => ?_) | refine awse_intro (ha _) (fun hrun => ?_)) | (show PGE _ _ _ _ _; first | refine pge_intro (must_run _ _) (fun tm' => ?_) | refine pge_intro (must_pan _ _) (fun tm' => ?_) | refine pge_intro (ha _) (fun tm' => ?_))) <;> (simp only [go_sem, Nat.reduceAdd, Nat.reduceSub, Nat.reduceMul, Nat.reduceLeDiff, Nat.reduceLT, Nat.reduceEqDiff, Int.reduceToNat, Int.reduceAdd, Int.reduceMul, Int.reduceSub, Int.reduceLT, Int.reduceLE, Int.reduceEq, Int.reduceNeg, Int.reduceBEq, Int.reduceBNe, ↓reduceIte, reduceCtorEq, hlt, hk, encS_eq, h1k, hv0, hlv, hv, eqg70, hE] <;> try simp (disch := omega) only [wrap_of])) | (refine hn _ _ ?_; clear hn hp Kn Kp) | (refine hp _ _ _ ?_; clear hn hp Kn Kp) | (refine awp_cond rfl (fun hb => ?_) (fun hb => ?_) <;> (try simp only [decide_eq_true_eq, decide_eq_false_iff_not, Bool.not_eq_true', Bool.not_eq_false', Bool.true_eq_false, Bool.false_eq_true, beq_iff_eq, bne_iff_ne, bne_eq_false_iff_eq, beq_eq_false_iff_ne, gt_iff_lt, ge_iff_le, Int.reduceEq, Int.reduceNe, Int.reduceLT, Int.reduceLE, ne_eq, not_true_eq_false, not_false_eq_true] at hb)) | ((first | refine awg_split (fun hb => ?_) (fun hb => ?_) | refine awsg_split (fun hb => ?_) (fun hb => ?_)) <;> have hb0 := hb <;> (try simp only [decide_eq_true_eq, decide_eq_false_iff_not, Bool.not_eq_true', Bool.not_eq_false', Bool.true_eq_false, Bool.false_eq_true, beq_iff_eq, bne_iff_ne, bne_eq_false_iff_eq, beq_eq_false_iff_ne, gt_iff_lt, ge_iff_le, Int.reduceEq, Int.reduceNe, Int.reduceLT, Int.reduceLE, ne_eq, not_true_eq_false, not_false_eq_true] at hb0) <;> (try simp only [beq_true, beq_false, Bool.not_eq_true', Bool.not_eq_false'] at hb) <;> (simp only [go_sem, Nat.reduceAdd, Nat.reduceSub, Nat.reduceMul, Nat.reduceLeDiff, Nat.reduceLT, Nat.reduceEqDiff, Int.reduceToNat, Int.reduceAdd, Int.reduceMul, Int.reduceSub, Int.reduceLT, Int.reduceLE, Int.reduceEq, Int.reduceNeg, Int.reduceBEq, Int.reduceBNe, ↓reduceIte, reduceCtorEq, hlt, hk, encS_eq, h1k, hv0, hlv, hv, eqg70, hE, hb, hb0] <;> try simp (disch := omega) only [wrap_of])) | (refine And.intro ?_ ?_) | refine awp_skip ?_ | refine awp_ret ?_ | refine awp_exit ?_ | refine awp_label ?_ | refine awloop_step ?_ | fail)
                (refine panX ?_; try exact True.intro)
        · simp only [hv0, if_false, show (1 : Int) ≠ 0 from by decide] at h4
          rw [h4]
          simp only [outE, show (1 : Int) ≠ 0 from by decide, if_false]
          repeat' (first | refine awp_seq ?_ | refine awp_block ?_ | refine awp_scope ?_ | ((first | refine awp_region_k fun Kn Kp hn hp => ?_ | show AWP _ _ (Code.region 6 _ true) _ _ _; refine awp_drawn_k (id := 6) [13] [13] [.win [0], .win [0], .win [0], .win [0], .win [0], .win [0], .win [0], .win [0], .win [0], .win [0], .win [0], .win [0], .win [0], .pan [0]] 1 rfl (by as_aux_lemma => kernel_rfl) fun Kn Kp hn hp => ?_ | show AWP _ _ (Code.region 7 _ true) _ _ _; refine awp_drawn_k (id := 7) [3, 13] [] [.win [0], .win [0], .win [0], .eff 0, .win [0, 1], .win [0, 1], .win [0, 1], .win [0, 1], .win [0, 1], .win [0, 1], .win [0, 1], .win [0, 1], .win [1], .eff 1] 2 rfl (by as_aux_lemma => kernel_rfl) fun Kn Kp hn hp => ?_ | show AWP _ _ (Code.region 11 _ true) _ _ _; refine awp_drawn_k (id := 11) [4, 6] [] [.win [0, 1], .win [0], .win [0], .win [0], .eff 0, .win [1], .eff 1] 2 rfl (by as_aux_lemma => kernel_rfl) fun Kn Kp hn hp => ?_ | refine oge_intro (by assumption) ?_ | (show AWE _ _ _ _ _ _ _ _ _; first | refine awe_intro (must_pan _ _) ?_) | (show AWSF _ _ _ _ _ _ _ _ _ _ _; first | refine awsf_intro (must_pan _ _) (fun hrun => ?_)) | (show OGE _ _ _ _ _ _ _; first | refine oge_intro (must_pan _ _) ?_) | (show AWSE _ _ _ _ _ _ _ _ _ _ _; first | refine awse_intro (must_pan _ _) (fun hrun => ?_)) | (show PGE _ _ _ _ _; first | refine pge_intro (must_pan _ _) (fun tm' => ?_))) <;> (simp only [go_sem, Nat.reduceAdd, Nat.reduceSub, Nat.reduceMul, Nat.reduceLeDiff, Nat.reduceLT, Nat.reduceEqDiff, Int.reduceToNat, Int.reduceAdd, Int.reduceMul, Int.reduceSub, Int.reduceLT, Int.reduceLE, Int.reduceEq, Int.reduceNeg, Int.reduceBEq, Int.reduceBNe, ↓reduceIte, reduceCtorEq, hlt, hk, encS_eq, h1k, hv0] <;> try simp (disch := omega) only [wrap_of])) | (refine hn _ _ ?_; clear hn hp Kn Kp) | (refine hp _ _ _ ?_; clear hn hp Kn Kp) | (refine awp_cond rfl (fun hb => ?_) (fun hb => ?_) <;> (try simp only [decide_eq_true_eq, decide_eq_false_iff_not, Bool.not_eq_true', Bool.not_eq_false', Bool.true_eq_false, Bool.false_eq_true, beq_iff_eq, bne_iff_ne, bne_eq_false_iff_eq, beq_eq_false_iff_ne, gt_iff_lt, ge_iff_le, Int.reduceEq, Int.reduceNe, Int.reduceLT, Int.reduceLE, ne_eq, not_true_eq_false, not_false_eq_true] at hb)) | ((first | refine awg_split (fun hb => ?_) (fun hb => ?_) | refine awsg_split (fun hb => ?_) (fun hb => ?_)) <;> have hb0 := hb <;> (try simp only [decide_eq_true_eq, decide_eq_false_iff_not, Bool.not_eq_true', Bool.not_eq_false', Bool.true_eq_false, Bool.false_eq_true, beq_iff_eq, bne_iff_ne, bne_eq_false_iff_eq, beq_eq_false_iff_ne, gt_iff_lt, ge_iff_le, Int.reduceEq, Int.reduceNe, Int.reduceLT, Int.reduceLE, ne_eq, not_true_eq_false, not_false_eq_true] at hb0) <;> (try simp only [beq_true, beq_false, Bool.not_eq_true', Bool.not_eq_false'] at hb) <;> (simp only [go_sem, Nat.reduceAdd, Nat.reduceSub, Nat.reduceMul, Nat.reduceLeDiff, Nat.reduceLT, Nat.reduceEqDiff, Int.reduceToNat, Int.reduceAdd, Int.reduceMul, Int.reduceSub, Int.reduceLT, Int.reduceLE, Int.reduceEq, Int.reduceNeg, Int.reduceBEq, Int.reduceBNe, ↓reduceIte, reduceCtorEq, hlt, hk, encS_eq, h1k, hv0, hb, hb0] <;> try simp (disch := omega) only [wrap_of])) | (refine And.intro ?_ ?_) | refine awp_skip ?_ | refine awp_ret ?_ | refine awp_exit ?_ | refine awp_label ?_ | refine awloop_step ?_ | fail)
          (refine panX ?_; try exact True.intro)
      · have h1k' : (k.kind == 1) = false := by simpa using h1k
        simp only [h1k, if_false] at h4
        by_cases h2k : k.kind = 2
        · simp only [h2k, if_true] at h4
          by_cases hr16 : 1 ≤ k.rel ∧ k.rel ≤ 6
          · obtain ⟨hr1, hr6⟩ := hr16
            simp only [hr1, hr6, and_self, if_true] at h4
            cases hi : inf vs k.a with
            | error x =>
              have hx := inf_err vs k.a x hi
              have hx0 : x ≠ 0 := by omega
              simp only [hi, hx0, if_false] at h4
              simp only [hi, outU] at ha
              rw [h4]
              simp only [outE, hx0, if_false]
              (have rr1 := dr51_6_U13; have rr2 := dr51_7_U13; have rr3 := dr51_11_U13; have ww1 := hlt; have ww2 := hk; have ww3 := @encS_eq; have ww4 := h2k; have ww5 := hr1; have ww6 := hr6; have cc1 := fun z1 z2 => must_run z1 z2; have cc2 := fun z1 => ha z1; refine wk ?_; clear rr1 rr2 rr3 ww1 ww2 ww3 ww4 ww5 ww6 cc1 cc2; (repeat' first | exact True.intro | refine Lf.mk ?_ ?_); all_goals intro hP)
              (refine panX ?_; try exact True.intro)
            | ok u =>
              simp only [hi, outU] at ha
              simp only [hi] at h4
              cases hj : inf vs k.b with
              | error x =>
                have hx := inf_err vs k.b x hj
                have hx0 : x ≠ 0 := by omega
                simp only [hj, hx0, if_false] at h4
                simp only [hj, outU] at hb0
                rw [h4]
                simp only [outE, hx0, if_false]
                repeat' (first | refine awp_seq ?_ | refine awp_block ?_ | refine awp_scope ?_ | ((first | refine awp_region_k fun Kn Kp hn hp => ?_ | show AWP _ _ (Code.region 6 _ true) _ _ _; refine awp_drawn_k (id := 6) [13] [] [.win [0], .win [0], .win [0], .win [0], .win [0], .win [0], .win [0], .win [0], .win [0], .win [0], .win [0], .win [0], .win [0], .eff 0] 1 rfl (by as_aux_lemma => kernel_rfl) fun Kn Kp hn hp => ?_ | show AWP _ _ (Code.region 7 _ true) _ _ _; refine awp_drawn_k (id := 7) [3, 13] [] [.win [0], .win [0], .win [0], .eff 0, .win [0, 1], .win [0, 1], .win [0, 1], .win [0, 1], .win [0, 1], .win [0, 1], .win [0, 1], .win [0, 1], .win [1], .eff 1] 2 rfl (by as_aux_lemma => kernel_rfl) fun Kn Kp hn hp => ?_ | show AWP _ _ (Code.region 11 _ true) _ _ _; refine awp_drawn_k (id := 11) [4, 6] [4] [.win [0, 1], .win [0], .win [0], .win [0], .pan [0], .skip, .skip] 2 rfl (by as_aux_lemma => kernel_rfl) fun Kn Kp hn hp => ?_ | refine oge_intro (by assumption) ?_ | (show AWE _ _ _ _ _ _ _ _ _; first | refine awe_intro (must_run _ _) ?_ | refine awe_intro (ha _) ?_ | refine awe_intro (hb0 _) ?_) | (show AWSF _ _ _ _ _ _ _ _ _ _ _; first | refine awsf_intro (must_run _ _) (fun hrun => ?_) | refine awsf_intro (ha _) (fun hrun => ?_) | refine awsf_intro (hb0 _) (fun hrun => ?_)) | (show OGE _ _ _ _ _ _ _; first | refine oge_intro (must_run _ _) ?_ | refine oge_intro (ha _) ?_ | refine oge_intro (hb0 _) ?_) | (show AWSE _ _ _ _ _ _ _ _ _ _ _; first | refine awse_intro (must_run _ _) (fun hrun => ?_) | refine awse_intro (ha _) (fun hrun => ?_) | refine awse_intro (hb0 _) (fun hrun => ?_)) | (show PGE _ _ _ _ _; first | refine pge_intro (must_run _ _) (fun tm' => ?_) | refine pge_intro (ha _) (fun tm' => ?_) | refine pge_intro (hb0 _) (fun tm' => ?_))) <;> (simp only [go_sem, Nat.reduceAdd, Nat.reduceSub, Nat.reduceMul, Nat.reduceLeDiff, Nat.reduceLT, Nat.reduceEqDiff, Int.reduceToNat, Int.reduceAdd, Int.reduceMul, Int.reduceSub, Int.reduceLT, Int.reduceLE, Int.reduceEq, Int.reduceNeg, Int.reduceBEq, Int.reduceBNe, ↓reduceIte, reduceCtorEq, hlt, hk, encS_eq, h2k, hr1, hr6] <;> try simp (disch := omega) only [wrap_of])) | (refine hn _ _ ?_; clear hn hp Kn Kp) | (refine hp _ _ _ ?_; clear hn hp Kn Kp) | (refine awp_cond rfl (fun hb => ?_) (fun hb => ?_) <;> (try simp only [decide_eq_true_eq, decide_eq_false_iff_not, Bool.not_eq_true', Bool.not_eq_false', Bool.true_eq_false, Bool.false_eq_true, beq_iff_eq, bne_iff_ne, bne_eq_false_iff_eq, beq_eq_false_iff_ne, gt_iff_lt, ge_iff_le, Int.reduceEq, Int.reduceNe, Int.reduceLT, Int.reduceLE, ne_eq, not_true_eq_false, not_false_eq_true] at hb)) | ((first | refine awg_split (fun hb => ?_) (fun hb => ?_) | refine awsg_split (fun hb => ?_) (fun hb => ?_)) <;> have hb0 := hb <;> (try simp only [decide_eq_true_eq, decide_eq_false_iff_not, Bool.not_eq_true', Bool.not_eq_false', Bool.true_eq_false, Bool.false_eq_true, beq_iff_eq, bne_iff_ne, bne_eq_false_iff_eq, beq_eq_false_iff_ne, gt_iff_lt, ge_iff_le, Int.reduceEq, Int.reduceNe, Int.reduceLT, Int.reduceLE, ne_eq, not_true_eq_false, not_false_eq_true] at hb0) <;> (try simp only [beq_true, beq_false, Bool.not_eq_true', Bool.not_eq_false'] at hb) <;> (simp only [go_sem, Nat.reduceAdd, Nat.reduceSub, Nat.reduceMul, Nat.reduceLeDiff, Nat.reduceLT, Nat.reduceEqDiff, Int.reduceToNat, Int.reduceAdd, Int.reduceMul, Int.reduceSub, Int.reduceLT, Int.reduceLE, Int.reduceEq, Int.reduceNeg, Int.reduceBEq, Int.reduceBNe, ↓reduceIte, reduceCtorEq, hlt, hk, encS_eq, h2k, hr1, hr6, hb, hb0] <;> try simp (disch := omega) only [wrap_of])) | (refine And.intro ?_ ?_) | refine awp_skip ?_ | refine awp_ret ?_ | refine awp_exit ?_ | refine awp_label ?_ | refine awloop_step ?_ | fail)
                (refine panX ?_; try exact True.intro)
              | ok w =>
                simp only [hj, outU] at hb0
                simp only [hj] at h4
                by_cases huw : u = w
                · subst huw
                  simp only [if_true] at h4
                  by_cases hT : stSL vs k.thn = 0
                  · simp only [hT, if_true] at h4
                    simp only [outE, hT, if_true] at ht
                    by_cases hE : stSL vs k.els = 0
                    · simp only [hE, if_true] at h4
                      simp only [outE, hE, if_true] at he
                      (have rr1 := dr51_6_U13; have rr2 := dr51_7_U13; have rr3 := dr51_11_U13; have ww1 := hlt; have ww2 := hk; have ww3 := @encS_eq; have ww4 := h2k; have ww5 := hr1; have ww6 := hr6; have ww7 := @eqg70; have cc1 := fun z1 z2 => must_run z1 z2; have cc2 := fun z1 => ha z1; have cc3 := fun z1 => hb0 z1; have cc4 := fun z1 => ht z1; have cc5 := fun z1 => he z1; refine wk ?_; clear rr1 rr2 rr3 ww1 ww2 ww3 ww4 ww5 ww6 ww7 cc1 cc2 cc3 cc4 cc5; (repeat' first | exact True.intro | refine Lf.mk ?_ ?_); all_goals intro hP)
                      refine ⟨i + 1, by omega, ⟨by omega, by rw [hd]; exact h4⟩, ?_⟩
                      (refine dropX ?_; try exact True.intro)
                      all_goals simp [wrap_of (n := (i : Int) + 1) (by omega) (by omega)]
                    · simp only [hE, if_false] at h4
                      simp only [outE, hE, if_false] at he
                      rw [h4]
                      simp only [outE, hE, if_false]
                      (have rr1 := dr51_6_U13; have rr2 := dr51_7_U13; have rr3 := dr51_11_U13; have ww1 := hlt; have ww2 := hk; have ww3 := @encS_eq; have ww4 := h2k; have ww5 := hr1; have ww6 := hr6; have ww7 := @eqg70; have cc1 := fun z1 z2 => must_run z1 z2; have cc2 := fun z1 => ha z1; have cc3 := fun z1 => hb0 z1; have cc4 := fun z1 => ht z1; have cc5 := fun z1 => he z1; refine wk ?_; clear rr1 rr2 rr3 ww1 ww2 ww3 ww4 ww5 ww6 ww7 cc1 cc2 cc3 cc4 cc5; (repeat' first | exact True.intro | refine Lf.mk ?_ ?_); all_goals intro hP)
                      (refine panX ?_; try exact True.intro)
                  · simp only [hT, if_false] at h4
                    simp only [outE, hT, if_false] at ht
                    rw [h4]
                    simp only [outE, hT, if_false]
                    (have rr1 := dr51_6_U13; have rr2 := dr51_7_U13; have rr3 := dr51_11_U13; have ww1 := hlt; have ww2 := hk; have ww3 := @encS_eq; have ww4 := h2k; have ww5 := hr1; have ww6 := hr6; have ww7 := @eqg70; have cc1 := fun z1 z2 => must_run z1 z2; have cc2 := fun z1 => ha z1; have cc3 := fun z1 => hb0 z1; have cc4 := fun z1 => ht z1; refine wk ?_; clear rr1 rr2 rr3 ww1 ww2 ww3 ww4 ww5 ww6 ww7 cc1 cc2 cc3 cc4; (repeat' first | exact True.intro | refine Lf.mk ?_ ?_); all_goals intro hP)
                    (refine panX ?_; try exact True.intro)
                · have hE := eqU u w
                  rw [decide_eq_false huw] at hE
                  simp only [huw, if_false, show (13 : Int) ≠ 0 from by decide] at h4
                  rw [h4]
                  simp only [outE, show (13 : Int) ≠ 0 from by decide, if_false]
                  repeat' (first | refine awp_seq ?_ | refine awp_block ?_ | refine awp_scope ?_ | ((first | refine awp_region_k fun Kn Kp hn hp => ?_ | show AWP _ _ (Code.region 6 _ true) _ _ _; refine awp_drawn_k (id := 6) [13] [] [.win [0], .win [0], .win [0], .win [0], .win [0], .win [0], .win [0], .win [0], .win [0], .win [0], .win [0], .win [0], .win [0], .eff 0] 1 rfl (by as_aux_lemma => kernel_rfl) fun Kn Kp hn hp => ?_ | show AWP _ _ (Code.region 7 _ true) _ _ _; refine awp_drawn_k (id := 7) [3, 13] [] [.win [0], .win [0], .win [0], .eff 0, .win [0, 1], .win [0, 1], .win [0, 1], .win [0, 1], .win [0, 1], .win [0, 1], .win [0, 1], .win [0, 1], .win [1], .eff 1] 2 rfl (by as_aux_lemma => kernel_rfl) fun Kn Kp hn hp => ?_ | show AWP _ _ (Code.region 11 _ true) _ _ _; refine awp_drawn_k (id := 11) [4, 6] [6] [.win [0, 1], .win [0], .win [0], .win [0], .eff 0, .win [1], .pan [1]] 2 rfl (by as_aux_lemma => kernel_rfl) fun Kn Kp hn hp => ?_ | refine oge_intro (by assumption) ?_ | (show AWE _ _ _ _ _ _ _ _ _; first | refine awe_intro (must_run _ _) ?_ | refine awe_intro (must_pan _ _) ?_ | refine awe_intro (ha _) ?_ | refine awe_intro (hb0 _) ?_) | (show AWSF _ _ _ _ _ _ _ _ _ _ _; first | refine awsf_intro (must_run _ _) (fun hrun => ?_) | refine awsf_intro (must_pan _ _) (fun hrun => ?_) | refine awsf_intro (ha _) (fun hrun => ?_) | refine awsf_intro (hb0 _) (fun hrun => ?_)) | (show OGE _ _ _ _ _ _ _; first | refine oge_intro (must_run _ _) ?_ | refine oge_intro (must_pan _ _) ?_ | refine oge_intro (ha _) ?_ | refine oge_intro (hb0 _) ?_) | (show AWSE _ _ _ _ _ _ _ _ _ _ _; first | refine awse_intro (must_run _ _) (fun hrun => ?_) | refine awse_intro (must_pan _ _) (fun hrun => ?_) | refine awse_intro (ha _) (fun hrun => ?_) | refine awse_intro (hb0 _) (fun hrun => ?_)) | (show PGE _ _ _ _ _; first | refine pge_intro (must_run _ _) (fun tm' => ?_) | refine pge_intro (must_pan _ _) (fun tm' => ?_) | refine pge_intro (ha _) (fun tm' => ?_) | refine pge_intro (hb0 _) (fun tm' => ?_))) <;> (simp only [go_sem, Nat.reduceAdd, Nat.reduceSub, Nat.reduceMul, Nat.reduceLeDiff, Nat.reduceLT, Nat.reduceEqDiff, Int.reduceToNat, Int.reduceAdd, Int.reduceMul, Int.reduceSub, Int.reduceLT, Int.reduceLE, Int.reduceEq, Int.reduceNeg, Int.reduceBEq, Int.reduceBNe, ↓reduceIte, reduceCtorEq, hlt, hk, encS_eq, h2k, hr1, hr6, eqg70, hE] <;> try simp (disch := omega) only [wrap_of])) | (refine hn _ _ ?_; clear hn hp Kn Kp) | (refine hp _ _ _ ?_; clear hn hp Kn Kp) | (refine awp_cond rfl (fun hb => ?_) (fun hb => ?_) <;> (try simp only [decide_eq_true_eq, decide_eq_false_iff_not, Bool.not_eq_true', Bool.not_eq_false', Bool.true_eq_false, Bool.false_eq_true, beq_iff_eq, bne_iff_ne, bne_eq_false_iff_eq, beq_eq_false_iff_ne, gt_iff_lt, ge_iff_le, Int.reduceEq, Int.reduceNe, Int.reduceLT, Int.reduceLE, ne_eq, not_true_eq_false, not_false_eq_true] at hb)) | ((first | refine awg_split (fun hb => ?_) (fun hb => ?_) | refine awsg_split (fun hb => ?_) (fun hb => ?_)) <;> have hb0 := hb <;> (try simp only [decide_eq_true_eq, decide_eq_false_iff_not, Bool.not_eq_true', Bool.not_eq_false', Bool.true_eq_false, Bool.false_eq_true, beq_iff_eq, bne_iff_ne, bne_eq_false_iff_eq, beq_eq_false_iff_ne, gt_iff_lt, ge_iff_le, Int.reduceEq, Int.reduceNe, Int.reduceLT, Int.reduceLE, ne_eq, not_true_eq_false, not_false_eq_true] at hb0) <;> (try simp only [beq_true, beq_false, Bool.not_eq_true', Bool.not_eq_false'] at hb) <;> (simp only [go_sem, Nat.reduceAdd, Nat.reduceSub, Nat.reduceMul, Nat.reduceLeDiff, Nat.reduceLT, Nat.reduceEqDiff, Int.reduceToNat, Int.reduceAdd, Int.reduceMul, Int.reduceSub, Int.reduceLT, Int.reduceLE, Int.reduceEq, Int.reduceNeg, Int.reduceBEq, Int.reduceBNe, ↓reduceIte, reduceCtorEq, hlt, hk, encS_eq, h2k, hr1, hr6, eqg70, hE, hb, hb0] <;> try simp (disch := omega) only [wrap_of])) | (refine And.intro ?_ ?_) | refine awp_skip ?_ | refine awp_ret ?_ | refine awp_exit ?_ | refine awp_label ?_ | refine awloop_step ?_ | fail)
                  (refine panX ?_; try exact True.intro)
          · simp only [hr16, if_false, show (1 : Int) ≠ 0 from by decide] at h4
            rw [h4]
            simp only [outE, show (1 : Int) ≠ 0 from by decide, if_false]
            repeat' (first | refine awp_seq ?_ | refine awp_block ?_ | refine awp_scope ?_ | ((first | refine awp_region_k fun Kn Kp hn hp => ?_ | show AWP _ _ (Code.region 6 _ true) _ _ _; refine awp_drawn_k (id := 6) [13] [] [.win [0], .win [0], .win [0], .win [0], .win [0], .win [0], .win [0], .win [0], .win [0], .win [0], .win [0], .win [0], .win [0], .eff 0] 1 rfl (by as_aux_lemma => kernel_rfl) fun Kn Kp hn hp => ?_ | show AWP _ _ (Code.region 7 _ true) _ _ _; refine awp_drawn_k (id := 7) [3, 13] [] [.win [0], .win [0], .win [0], .eff 0, .win [0, 1], .win [0, 1], .win [0, 1], .win [0, 1], .win [0, 1], .win [0, 1], .win [0, 1], .win [0, 1], .win [1], .eff 1] 2 rfl (by as_aux_lemma => kernel_rfl) fun Kn Kp hn hp => ?_ | show AWP _ _ (Code.region 11 _ true) _ _ _; refine awp_drawn_k (id := 11) [4, 6] [] [.win [0, 1], .win [0], .win [0], .win [0], .eff 0, .win [1], .eff 1] 2 rfl (by as_aux_lemma => kernel_rfl) fun Kn Kp hn hp => ?_ | refine oge_intro (by assumption) ?_) <;> (simp only [go_sem, Nat.reduceAdd, Nat.reduceSub, Nat.reduceMul, Nat.reduceLeDiff, Nat.reduceLT, Nat.reduceEqDiff, Int.reduceToNat, Int.reduceAdd, Int.reduceMul, Int.reduceSub, Int.reduceLT, Int.reduceLE, Int.reduceEq, Int.reduceNeg, Int.reduceBEq, Int.reduceBNe, ↓reduceIte, reduceCtorEq, hlt, hk, encS_eq, h2k] <;> try simp (disch := omega) only [wrap_of])) | (refine hn _ _ ?_; clear hn hp Kn Kp) | (refine hp _ _ _ ?_; clear hn hp Kn Kp) | (refine awp_cond rfl (fun hb => ?_) (fun hb => ?_) <;> (try simp only [decide_eq_true_eq, decide_eq_false_iff_not, Bool.not_eq_true', Bool.not_eq_false', Bool.true_eq_false, Bool.false_eq_true, beq_iff_eq, bne_iff_ne, bne_eq_false_iff_eq, beq_eq_false_iff_ne, gt_iff_lt, ge_iff_le, Int.reduceEq, Int.reduceNe, Int.reduceLT, Int.reduceLE, ne_eq, not_true_eq_false, not_false_eq_true] at hb)) | ((first | refine awg_split (fun hb => ?_) (fun hb => ?_) | refine awsg_split (fun hb => ?_) (fun hb => ?_) | refine awe_cases (must_c _ _ _) (fun hb => ?_) (fun hb => ?_)) <;> have hb0 := hb <;> (try simp only [decide_eq_true_eq, decide_eq_false_iff_not, Bool.not_eq_true', Bool.not_eq_false', Bool.true_eq_false, Bool.false_eq_true, beq_iff_eq, bne_iff_ne, bne_eq_false_iff_eq, beq_eq_false_iff_ne, gt_iff_lt, ge_iff_le, Int.reduceEq, Int.reduceNe, Int.reduceLT, Int.reduceLE, ne_eq, not_true_eq_false, not_false_eq_true] at hb0) <;> (try simp only [beq_true, beq_false, Bool.not_eq_true', Bool.not_eq_false'] at hb) <;> (simp only [go_sem, Nat.reduceAdd, Nat.reduceSub, Nat.reduceMul, Nat.reduceLeDiff, Nat.reduceLT, Nat.reduceEqDiff, Int.reduceToNat, Int.reduceAdd, Int.reduceMul, Int.reduceSub, Int.reduceLT, Int.reduceLE, Int.reduceEq, Int.reduceNeg, Int.reduceBEq, Int.reduceBNe, ↓reduceIte, reduceCtorEq, hlt, hk, encS_eq, h2k, hb, hb0] <;> try simp (disch := omega) only [wrap_of])) | (refine And.intro ?_ ?_) | refine awp_skip ?_ | refine awp_ret ?_ | refine awp_exit ?_ | refine awp_label ?_ | refine awloop_step ?_ | fail)
            all_goals first
              | omega
              | ((refine panX ?_; try exact True.intro))
        · have h2k' : (k.kind == 2) = false := by simpa using h2k
          simp only [h2k, if_false, show (1 : Int) ≠ 0 from by decide] at h4
          rw [h4]
          simp only [outE, show (1 : Int) ≠ 0 from by decide, if_false]
          (have rr1 := dr51_6_U13; have rr2 := dr51_7_U13; have rr3 := dr51_11_U13; have ww1 := hlt; have ww2 := hk; have ww3 := @encS_eq; have ww4 := h1k'; have ww5 := h2k'; refine wk ?_; clear rr1 rr2 rr3 ww1 ww2 ww3 ww4 ww5; (repeat' first | exact True.intro | refine Lf.mk ?_ ?_); all_goals intro hP)
          (refine panX ?_; try exact True.intro)
theorem handler_run (vs : List Un) (hvs : ∀ u ∈ vs, u.ok) (l : List St) (hM : manyL l ≤ 900000) (hF : fineL l) (H0 : List AObj) : ARun Try.prog 39 [chk vs, .rs 13 (l.map encS)] H0 (.ret (.i (handS vs l)) H0) := by
  have hc := fun H0 => countS_run (manyL l) l (Nat.le_refl _) (by omega) 100 H0 (by omega) (by omega)
  have hcm := cntSL_many l 100 (by omega)
  have hs := fun H0 => small_run (manyL l) l (Nat.le_refl _) hM hF H0
  have ht := fun H0 => stmts_run vs hvs (totL l) l (Nat.le_refl _) hF H0
  unfold handS
  by_cases h100 : 100 < manyL l
  · have hle : ¬ cntSL l 100 0 ≤ 100 := by have := hcm.2 (by omega); omega
    simp only [h100, if_true]
    (refine ARun.introD Try.func39 rfl Try.call39 Try.ntmps39 Try.results39 ?_; simp only [List.length_cons, List.length_nil, List.length_map, Nat.reduceAdd, Nat.reduceSub, List.replicate_succ, List.replicate_zero, List.cons_append, List.nil_append])
    repeat' (first | refine awpd_seq ?_ | refine awp_block ?_ | (refine awpd_defer (id := 1) ?_; simp only [AWLD, go_sem, Nat.reduceAdd, Nat.reduceSub, Nat.reduceMul, Nat.reduceLeDiff, Nat.reduceLT, Nat.reduceEqDiff, Int.reduceToNat, Int.reduceAdd, Int.reduceMul, Int.reduceSub, Int.reduceLT, Int.reduceLE, Int.reduceEq, Int.reduceNeg, Int.reduceBEq, Int.reduceBNe, ↓reduceIte, reduceCtorEq, hle]) | ((first | refine awpd_region_k fun Kn Kp hn hp => ?_ | refine oge_intro (by assumption) ?_ | (show AWE _ _ _ _ _ _ _ _ _; first | refine awe_intro (hc _) ?_ | refine awe_intro (must_pan _ _) ?_) | (show AWSF _ _ _ _ _ _ _ _ _ _ _; first | refine awsf_intro (hc _) (fun hrun => ?_) | refine awsf_intro (must_pan _ _) (fun hrun => ?_)) | (show OGE _ _ _ _ _ _ _; first | refine oge_intro (hc _) ?_ | refine oge_intro (must_pan _ _) ?_) | (show AWSE _ _ _ _ _ _ _ _ _ _ _; first | refine awse_intro (hc _) (fun hrun => ?_) | refine awse_intro (must_pan _ _) (fun hrun => ?_)) | (show PGE _ _ _ _ _; first | refine pge_intro (hc _) (fun tm' => ?_) | refine pge_intro (must_pan _ _) (fun tm' => ?_))) <;> (simp only [go_sem, Nat.reduceAdd, Nat.reduceSub, Nat.reduceMul, Nat.reduceLeDiff, Nat.reduceLT, Nat.reduceEqDiff, Int.reduceToNat, Int.reduceAdd, Int.reduceMul, Int.reduceSub, Int.reduceLT, Int.reduceLE, Int.reduceEq, Int.reduceNeg, Int.reduceBEq, Int.reduceBNe, ↓reduceIte, reduceCtorEq, hle] <;> try simp (disch := omega) only [wrap_of])) | (refine hn _ _ ?_; clear hn hp Kn Kp) | (refine hp _ _ _ ?_; clear hn hp Kn Kp) | (refine awpd_cond rfl (fun hb => ?_) (fun hb => ?_) <;> (try simp only [decide_eq_true_eq, decide_eq_false_iff_not, Bool.not_eq_true', Bool.not_eq_false', Bool.true_eq_false, Bool.false_eq_true, beq_iff_eq, bne_iff_ne, bne_eq_false_iff_eq, beq_eq_false_iff_ne, gt_iff_lt, ge_iff_le, Int.reduceEq, Int.reduceNe, Int.reduceLT, Int.reduceLE, ne_eq, not_true_eq_false, not_false_eq_true] at hb)) | ((first | refine awg_split (fun hb => ?_) (fun hb => ?_) | refine awsg_split (fun hb => ?_) (fun hb => ?_)) <;> have hb0 := hb <;> (try simp only [decide_eq_true_eq, decide_eq_false_iff_not, Bool.not_eq_true', Bool.not_eq_false', Bool.true_eq_false, Bool.false_eq_true, beq_iff_eq, bne_iff_ne, bne_eq_false_iff_eq, beq_eq_false_iff_ne, gt_iff_lt, ge_iff_le, Int.reduceEq, Int.reduceNe, Int.reduceLT, Int.reduceLE, ne_eq, not_true_eq_false, not_false_eq_true] at hb0) <;> (try simp only [beq_true, beq_false, Bool.not_eq_true', Bool.not_eq_false'] at hb) <;> (simp only [go_sem, Nat.reduceAdd, Nat.reduceSub, Nat.reduceMul, Nat.reduceLeDiff, Nat.reduceLT, Nat.reduceEqDiff, Int.reduceToNat, Int.reduceAdd, Int.reduceMul, Int.reduceSub, Int.reduceLT, Int.reduceLE, Int.reduceEq, Int.reduceNeg, Int.reduceBEq, Int.reduceBNe, ↓reduceIte, reduceCtorEq, hle, hb, hb0] <;> try simp (disch := omega) only [wrap_of])) | (refine And.intro ?_ ?_) | refine awpd_ret ?_ | refine awpd_skip ?_ | refine awloop_step ?_ | fail)
    refine ⟨_, caught_pan _ _ 2 0 (getO0 _ _ _), ?_⟩
    ((try simp only [go_sem, Nat.reduceAdd, Nat.reduceSub, Nat.reduceMul, Nat.reduceLeDiff, Nat.reduceLT, Nat.reduceEqDiff, Int.reduceToNat, Int.reduceAdd, Int.reduceMul, Int.reduceSub, Int.reduceLT, Int.reduceLE, Int.reduceEq, Int.reduceNeg, Int.reduceBEq, Int.reduceBNe, ↓reduceIte, reduceCtorEq]); (first | refine ⟨_, rfl, _, rfl, Fin.pure0 0 ?_⟩ | refine ⟨_, rfl, _, rfl, Fin.pure 1 ?_⟩); simp only [AV.low, List.map_cons, List.map_nil, aOne, aev, List.getElem?_cons_zero, List.getElem?_cons_succ, Option.getD_some, List.length_append, List.length_cons, List.length_nil, Nat.lt_irrefl, if_false]; try rfl)
  · have hle : cntSL l 100 0 ≤ 100 := by rw [hcm.1 (by omega)]; omega
    simp only [h100, if_false]
    cases hS : smSL l with
    | false =>
      simp only [hS, outB] at hs
      simp only [Bool.false_eq_true, if_false]
      (refine ARun.introD Try.func39 rfl Try.call39 Try.ntmps39 Try.results39 ?_; simp only [List.length_cons, List.length_nil, List.length_map, Nat.reduceAdd, Nat.reduceSub, List.replicate_succ, List.replicate_zero, List.cons_append, List.nil_append])
      repeat' (first | refine awpd_seq ?_ | refine awp_block ?_ | (refine awpd_defer (id := 1) ?_; simp only [AWLD, go_sem, Nat.reduceAdd, Nat.reduceSub, Nat.reduceMul, Nat.reduceLeDiff, Nat.reduceLT, Nat.reduceEqDiff, Int.reduceToNat, Int.reduceAdd, Int.reduceMul, Int.reduceSub, Int.reduceLT, Int.reduceLE, Int.reduceEq, Int.reduceNeg, Int.reduceBEq, Int.reduceBNe, ↓reduceIte, reduceCtorEq, hle]) | ((first | refine awpd_region_k fun Kn Kp hn hp => ?_ | refine oge_intro (by assumption) ?_ | (show AWE _ _ _ _ _ _ _ _ _; first | refine awe_intro (hc _) ?_ | refine awe_intro (must_run _ _) ?_ | refine awe_intro (hs _) ?_) | (show AWSF _ _ _ _ _ _ _ _ _ _ _; first | refine awsf_intro (hc _) (fun hrun => ?_) | refine awsf_intro (must_run _ _) (fun hrun => ?_) | refine awsf_intro (hs _) (fun hrun => ?_)) | (show OGE _ _ _ _ _ _ _; first | refine oge_intro (hc _) ?_ | refine oge_intro (must_run _ _) ?_ | refine oge_intro (hs _) ?_) | (show AWSE _ _ _ _ _ _ _ _ _ _ _; first | refine awse_intro (hc _) (fun hrun => ?_) | refine awse_intro (must_run _ _) (fun hrun => ?_) | refine awse_intro (hs _) (fun hrun => ?_)) | (show PGE _ _ _ _ _; first | refine pge_intro (hc _) (fun tm' => ?_) | refine pge_intro (must_run _ _) (fun tm' => ?_) | refine pge_intro (hs _) (fun tm' => ?_))) <;> (simp only [go_sem, Nat.reduceAdd, Nat.reduceSub, Nat.reduceMul, Nat.reduceLeDiff, Nat.reduceLT, Nat.reduceEqDiff, Int.reduceToNat, Int.reduceAdd, Int.reduceMul, Int.reduceSub, Int.reduceLT, Int.reduceLE, Int.reduceEq, Int.reduceNeg, Int.reduceBEq, Int.reduceBNe, ↓reduceIte, reduceCtorEq, hle] <;> try simp (disch := omega) only [wrap_of])) | (refine hn _ _ ?_; clear hn hp Kn Kp) | (refine hp _ _ _ ?_; clear hn hp Kn Kp) | (refine awpd_cond rfl (fun hb => ?_) (fun hb => ?_) <;> (try simp only [decide_eq_true_eq, decide_eq_false_iff_not, Bool.not_eq_true', Bool.not_eq_false', Bool.true_eq_false, Bool.false_eq_true, beq_iff_eq, bne_iff_ne, bne_eq_false_iff_eq, beq_eq_false_iff_ne, gt_iff_lt, ge_iff_le, Int.reduceEq, Int.reduceNe, Int.reduceLT, Int.reduceLE, ne_eq, not_true_eq_false, not_false_eq_true] at hb)) | ((first | refine awg_split (fun hb => ?_) (fun hb => ?_) | refine awsg_split (fun hb => ?_) (fun hb => ?_)) <;> have hb0 := hb <;> (try simp only [decide_eq_true_eq, decide_eq_false_iff_not, Bool.not_eq_true', Bool.not_eq_false', Bool.true_eq_false, Bool.false_eq_true, beq_iff_eq, bne_iff_ne, bne_eq_false_iff_eq, beq_eq_false_iff_ne, gt_iff_lt, ge_iff_le, Int.reduceEq, Int.reduceNe, Int.reduceLT, Int.reduceLE, ne_eq, not_true_eq_false, not_false_eq_true] at hb0) <;> (try simp only [beq_true, beq_false, Bool.not_eq_true', Bool.not_eq_false'] at hb) <;> (simp only [go_sem, Nat.reduceAdd, Nat.reduceSub, Nat.reduceMul, Nat.reduceLeDiff, Nat.reduceLT, Nat.reduceEqDiff, Int.reduceToNat, Int.reduceAdd, Int.reduceMul, Int.reduceSub, Int.reduceLT, Int.reduceLE, Int.reduceEq, Int.reduceNeg, Int.reduceBEq, Int.reduceBNe, ↓reduceIte, reduceCtorEq, hle, hb, hb0] <;> try simp (disch := omega) only [wrap_of])) | (refine And.intro ?_ ?_) | refine awpd_ret ?_ | refine awpd_skip ?_ | refine awloop_step ?_ | fail)
      refine ⟨_, caught_pan _ _ 2 0 (getO0 _ _ _), ?_⟩
      ((try simp only [go_sem, Nat.reduceAdd, Nat.reduceSub, Nat.reduceMul, Nat.reduceLeDiff, Nat.reduceLT, Nat.reduceEqDiff, Int.reduceToNat, Int.reduceAdd, Int.reduceMul, Int.reduceSub, Int.reduceLT, Int.reduceLE, Int.reduceEq, Int.reduceNeg, Int.reduceBEq, Int.reduceBNe, ↓reduceIte, reduceCtorEq]); (first | refine ⟨_, rfl, _, rfl, Fin.pure0 0 ?_⟩ | refine ⟨_, rfl, _, rfl, Fin.pure 1 ?_⟩); simp only [AV.low, List.map_cons, List.map_nil, aOne, aev, List.getElem?_cons_zero, List.getElem?_cons_succ, Option.getD_some, List.length_append, List.length_cons, List.length_nil, Nat.lt_irrefl, if_false]; try rfl)
    | true =>
      simp only [hS, outB] at hs
      simp only [if_true]
      by_cases hT : stSL vs l = 0
      · simp only [outE, hT, if_true] at ht
        rw [hT]
        (refine ARun.introD Try.func39 rfl Try.call39 Try.ntmps39 Try.results39 ?_; simp only [List.length_cons, List.length_nil, List.length_map, Nat.reduceAdd, Nat.reduceSub, List.replicate_succ, List.replicate_zero, List.cons_append, List.nil_append])
        repeat' (first | refine awpd_seq ?_ | refine awp_block ?_ | (refine awpd_defer (id := 1) ?_; simp only [AWLD, go_sem, Nat.reduceAdd, Nat.reduceSub, Nat.reduceMul, Nat.reduceLeDiff, Nat.reduceLT, Nat.reduceEqDiff, Int.reduceToNat, Int.reduceAdd, Int.reduceMul, Int.reduceSub, Int.reduceLT, Int.reduceLE, Int.reduceEq, Int.reduceNeg, Int.reduceBEq, Int.reduceBNe, ↓reduceIte, reduceCtorEq, hle]) | ((first | refine awpd_region_k fun Kn Kp hn hp => ?_ | refine oge_intro (by assumption) ?_ | (show AWE _ _ _ _ _ _ _ _ _; first | refine awe_intro (hc _) ?_ | refine awe_intro (must_run _ _) ?_ | refine awe_intro (hs _) ?_ | refine awe_intro (ht _) ?_) | (show AWSF _ _ _ _ _ _ _ _ _ _ _; first | refine awsf_intro (hc _) (fun hrun => ?_) | refine awsf_intro (must_run _ _) (fun hrun => ?_) | refine awsf_intro (hs _) (fun hrun => ?_) | refine awsf_intro (ht _) (fun hrun => ?_)) | (show OGE _ _ _ _ _ _ _; first | refine oge_intro (hc _) ?_ | refine oge_intro (must_run _ _) ?_ | refine oge_intro (hs _) ?_ | refine oge_intro (ht _) ?_) | (show AWSE _ _ _ _ _ _ _ _ _ _ _; first | refine awse_intro (hc _) (fun hrun => ?_) | refine awse_intro (must_run _ _) (fun hrun => ?_) | refine awse_intro (hs _) (fun hrun => ?_) | refine awse_intro (ht _) (fun hrun => ?_)) | (show PGE _ _ _ _ _; first | refine pge_intro (hc _) (fun tm' => ?_) | refine pge_intro (must_run _ _) (fun tm' => ?_) | refine pge_intro (hs _) (fun tm' => ?_) | refine pge_intro (ht _) (fun tm' => ?_))) <;> (simp only [go_sem, Nat.reduceAdd, Nat.reduceSub, Nat.reduceMul, Nat.reduceLeDiff, Nat.reduceLT, Nat.reduceEqDiff, Int.reduceToNat, Int.reduceAdd, Int.reduceMul, Int.reduceSub, Int.reduceLT, Int.reduceLE, Int.reduceEq, Int.reduceNeg, Int.reduceBEq, Int.reduceBNe, ↓reduceIte, reduceCtorEq, hle] <;> try simp (disch := omega) only [wrap_of])) | (refine hn _ _ ?_; clear hn hp Kn Kp) | (refine hp _ _ _ ?_; clear hn hp Kn Kp) | (refine awpd_cond rfl (fun hb => ?_) (fun hb => ?_) <;> (try simp only [decide_eq_true_eq, decide_eq_false_iff_not, Bool.not_eq_true', Bool.not_eq_false', Bool.true_eq_false, Bool.false_eq_true, beq_iff_eq, bne_iff_ne, bne_eq_false_iff_eq, beq_eq_false_iff_ne, gt_iff_lt, ge_iff_le, Int.reduceEq, Int.reduceNe, Int.reduceLT, Int.reduceLE, ne_eq, not_true_eq_false, not_false_eq_true] at hb)) | ((first | refine awg_split (fun hb => ?_) (fun hb => ?_) | refine awsg_split (fun hb => ?_) (fun hb => ?_)) <;> have hb0 := hb <;> (try simp only [decide_eq_true_eq, decide_eq_false_iff_not, Bool.not_eq_true', Bool.not_eq_false', Bool.true_eq_false, Bool.false_eq_true, beq_iff_eq, bne_iff_ne, bne_eq_false_iff_eq, beq_eq_false_iff_ne, gt_iff_lt, ge_iff_le, Int.reduceEq, Int.reduceNe, Int.reduceLT, Int.reduceLE, ne_eq, not_true_eq_false, not_false_eq_true] at hb0) <;> (try simp only [beq_true, beq_false, Bool.not_eq_true', Bool.not_eq_false'] at hb) <;> (simp only [go_sem, Nat.reduceAdd, Nat.reduceSub, Nat.reduceMul, Nat.reduceLeDiff, Nat.reduceLT, Nat.reduceEqDiff, Int.reduceToNat, Int.reduceAdd, Int.reduceMul, Int.reduceSub, Int.reduceLT, Int.reduceLE, Int.reduceEq, Int.reduceNeg, Int.reduceBEq, Int.reduceBNe, ↓reduceIte, reduceCtorEq, hle, hb, hb0] <;> try simp (disch := omega) only [wrap_of])) | (refine And.intro ?_ ?_) | refine awpd_ret ?_ | refine awpd_skip ?_ | refine awloop_step ?_ | fail)
        refine ⟨_, caught_none _ _, ?_⟩
        ((try simp only [go_sem, Nat.reduceAdd, Nat.reduceSub, Nat.reduceMul, Nat.reduceLeDiff, Nat.reduceLT, Nat.reduceEqDiff, Int.reduceToNat, Int.reduceAdd, Int.reduceMul, Int.reduceSub, Int.reduceLT, Int.reduceLE, Int.reduceEq, Int.reduceNeg, Int.reduceBEq, Int.reduceBNe, ↓reduceIte, reduceCtorEq]); (first | refine ⟨_, rfl, _, rfl, Fin.pure0 0 ?_⟩ | refine ⟨_, rfl, _, rfl, Fin.pure 1 ?_⟩); simp only [AV.low, List.map_cons, List.map_nil, aOne, aev, List.getElem?_cons_zero, List.getElem?_cons_succ, Option.getD_some, List.length_append, List.length_cons, List.length_nil, Nat.lt_irrefl, if_false]; try rfl)
      · simp only [outE, hT, if_false] at ht
        (refine ARun.introD Try.func39 rfl Try.call39 Try.ntmps39 Try.results39 ?_; simp only [List.length_cons, List.length_nil, List.length_map, Nat.reduceAdd, Nat.reduceSub, List.replicate_succ, List.replicate_zero, List.cons_append, List.nil_append])
        repeat' (first | refine awpd_seq ?_ | refine awp_block ?_ | (refine awpd_defer (id := 1) ?_; simp only [AWLD, go_sem, Nat.reduceAdd, Nat.reduceSub, Nat.reduceMul, Nat.reduceLeDiff, Nat.reduceLT, Nat.reduceEqDiff, Int.reduceToNat, Int.reduceAdd, Int.reduceMul, Int.reduceSub, Int.reduceLT, Int.reduceLE, Int.reduceEq, Int.reduceNeg, Int.reduceBEq, Int.reduceBNe, ↓reduceIte, reduceCtorEq, hle]) | ((first | refine awpd_region_k fun Kn Kp hn hp => ?_ | refine oge_intro (by assumption) ?_ | (show AWE _ _ _ _ _ _ _ _ _; first | refine awe_intro (hc _) ?_ | refine awe_intro (must_run _ _) ?_ | refine awe_intro (hs _) ?_ | refine awe_intro (ht _) ?_) | (show AWSF _ _ _ _ _ _ _ _ _ _ _; first | refine awsf_intro (hc _) (fun hrun => ?_) | refine awsf_intro (must_run _ _) (fun hrun => ?_) | refine awsf_intro (hs _) (fun hrun => ?_) | refine awsf_intro (ht _) (fun hrun => ?_)) | (show OGE _ _ _ _ _ _ _; first | refine oge_intro (hc _) ?_ | refine oge_intro (must_run _ _) ?_ | refine oge_intro (hs _) ?_ | refine oge_intro (ht _) ?_) | (show AWSE _ _ _ _ _ _ _ _ _ _ _; first | refine awse_intro (hc _) (fun hrun => ?_) | refine awse_intro (must_run _ _) (fun hrun => ?_) | refine awse_intro (hs _) (fun hrun => ?_) | refine awse_intro (ht _) (fun hrun => ?_)) | (show PGE _ _ _ _ _; first | refine pge_intro (hc _) (fun tm' => ?_) | refine pge_intro (must_run _ _) (fun tm' => ?_) | refine pge_intro (hs _) (fun tm' => ?_) | refine pge_intro (ht _) (fun tm' => ?_))) <;> (simp only [go_sem, Nat.reduceAdd, Nat.reduceSub, Nat.reduceMul, Nat.reduceLeDiff, Nat.reduceLT, Nat.reduceEqDiff, Int.reduceToNat, Int.reduceAdd, Int.reduceMul, Int.reduceSub, Int.reduceLT, Int.reduceLE, Int.reduceEq, Int.reduceNeg, Int.reduceBEq, Int.reduceBNe, ↓reduceIte, reduceCtorEq, hle] <;> try simp (disch := omega) only [wrap_of])) | (refine hn _ _ ?_; clear hn hp Kn Kp) | (refine hp _ _ _ ?_; clear hn hp Kn Kp) | (refine awpd_cond rfl (fun hb => ?_) (fun hb => ?_) <;> (try simp only [decide_eq_true_eq, decide_eq_false_iff_not, Bool.not_eq_true', Bool.not_eq_false', Bool.true_eq_false, Bool.false_eq_true, beq_iff_eq, bne_iff_ne, bne_eq_false_iff_eq, beq_eq_false_iff_ne, gt_iff_lt, ge_iff_le, Int.reduceEq, Int.reduceNe, Int.reduceLT, Int.reduceLE, ne_eq, not_true_eq_false, not_false_eq_true] at hb)) | ((first | refine awg_split (fun hb => ?_) (fun hb => ?_) | refine awsg_split (fun hb => ?_) (fun hb => ?_)) <;> have hb0 := hb <;> (try simp only [decide_eq_true_eq, decide_eq_false_iff_not, Bool.not_eq_true', Bool.not_eq_false', Bool.true_eq_false, Bool.false_eq_true, beq_iff_eq, bne_iff_ne, bne_eq_false_iff_eq, beq_eq_false_iff_ne, gt_iff_lt, ge_iff_le, Int.reduceEq, Int.reduceNe, Int.reduceLT, Int.reduceLE, ne_eq, not_true_eq_false, not_false_eq_true] at hb0) <;> (try simp only [beq_true, beq_false, Bool.not_eq_true', Bool.not_eq_false'] at hb) <;> (simp only [go_sem, Nat.reduceAdd, Nat.reduceSub, Nat.reduceMul, Nat.reduceLeDiff, Nat.reduceLT, Nat.reduceEqDiff, Int.reduceToNat, Int.reduceAdd, Int.reduceMul, Int.reduceSub, Int.reduceLT, Int.reduceLE, Int.reduceEq, Int.reduceNeg, Int.reduceBEq, Int.reduceBNe, ↓reduceIte, reduceCtorEq, hle, hb, hb0] <;> try simp (disch := omega) only [wrap_of])) | (refine And.intro ?_ ?_) | refine awpd_ret ?_ | refine awpd_skip ?_ | refine awloop_step ?_ | fail)
        refine ⟨_, caught_pan _ _ _ 0 (getO0 _ _ _), ?_⟩
        ((try simp only [go_sem, Nat.reduceAdd, Nat.reduceSub, Nat.reduceMul, Nat.reduceLeDiff, Nat.reduceLT, Nat.reduceEqDiff, Int.reduceToNat, Int.reduceAdd, Int.reduceMul, Int.reduceSub, Int.reduceLT, Int.reduceLE, Int.reduceEq, Int.reduceNeg, Int.reduceBEq, Int.reduceBNe, ↓reduceIte, reduceCtorEq]); (first | refine ⟨_, rfl, _, rfl, Fin.pure0 0 ?_⟩ | refine ⟨_, rfl, _, rfl, Fin.pure 1 ?_⟩); simp only [AV.low, List.map_cons, List.map_nil, aOne, aev, List.getElem?_cons_zero, List.getElem?_cons_succ, Option.getD_some, List.length_append, List.length_cons, List.length_nil, Nat.lt_irrefl, if_false]; try rfl)
def ansC (x : Int × Int) : AV := .tup [.i x.1, .i x.2]
theorem Check_run (p : Prg) (hl : p.vars.length ≤ 1000000) (hok : okP p) (H0 : List AObj) : ARun Try.prog 22 [.ag (cP p)] H0 (.ret (ansC (checkS p)) H0) := by
  unfold checkS
  cases hks : ksL p.vars with
  | none =>
    (refine ARun.intro Try.func22 rfl Try.call22 Try.ntmps22 Try.results22 ?_; simp only [List.length_cons, List.length_nil, List.length_map, Nat.reduceAdd, Nat.reduceSub, List.replicate_succ, List.replicate_zero, List.cons_append, List.nil_append])
    repeat' (first | refine awp_seq ?_ | refine awp_block ?_ | refine awp_scope ?_ | ((first | refine awp_region_k fun Kn Kp hn hp => ?_ | refine oge_intro (by assumption) ?_ | (show AWE _ _ _ _ _ _ _ _ _; first | refine awe_intro (start_run p.vars hl _) ?_) | (show AWSF _ _ _ _ _ _ _ _ _ _ _; first | refine awsf_intro (start_run p.vars hl _) (fun hrun => ?_)) | (show OGE _ _ _ _ _ _ _; first | refine oge_intro (start_run p.vars hl _) ?_) | (show AWSE _ _ _ _ _ _ _ _ _ _ _; first | refine awse_intro (start_run p.vars hl _) (fun hrun => ?_)) | (show PGE _ _ _ _ _; first | refine pge_intro (start_run p.vars hl _) (fun tm' => ?_))) <;> (simp only [go_sem, Nat.reduceAdd, Nat.reduceSub, Nat.reduceMul, Nat.reduceLeDiff, Nat.reduceLT, Nat.reduceEqDiff, Int.reduceToNat, Int.reduceAdd, Int.reduceMul, Int.reduceSub, Int.reduceLT, Int.reduceLE, Int.reduceEq, Int.reduceNeg, Int.reduceBEq, Int.reduceBNe, ↓reduceIte, reduceCtorEq, startAns, hks] <;> try simp (disch := omega) only [wrap_of])) | (refine hn _ _ ?_; clear hn hp Kn Kp) | (refine hp _ _ _ ?_; clear hn hp Kn Kp) | (refine awp_cond rfl (fun hb => ?_) (fun hb => ?_) <;> (try simp only [decide_eq_true_eq, decide_eq_false_iff_not, Bool.not_eq_true', Bool.not_eq_false', Bool.true_eq_false, Bool.false_eq_true, beq_iff_eq, bne_iff_ne, bne_eq_false_iff_eq, beq_eq_false_iff_ne, gt_iff_lt, ge_iff_le, Int.reduceEq, Int.reduceNe, Int.reduceLT, Int.reduceLE, ne_eq, not_true_eq_false, not_false_eq_true] at hb)) | ((first | refine awg_split (fun hb => ?_) (fun hb => ?_) | refine awsg_split (fun hb => ?_) (fun hb => ?_)) <;> have hb0 := hb <;> (try simp only [decide_eq_true_eq, decide_eq_false_iff_not, Bool.not_eq_true', Bool.not_eq_false', Bool.true_eq_false, Bool.false_eq_true, beq_iff_eq, bne_iff_ne, bne_eq_false_iff_eq, beq_eq_false_iff_ne, gt_iff_lt, ge_iff_le, Int.reduceEq, Int.reduceNe, Int.reduceLT, Int.reduceLE, ne_eq, not_true_eq_false, not_false_eq_true] at hb0) <;> (try simp only [beq_true, beq_false, Bool.not_eq_true', Bool.not_eq_false'] at hb) <;> (simp only [go_sem, Nat.reduceAdd, Nat.reduceSub, Nat.reduceMul, Nat.reduceLeDiff, Nat.reduceLT, Nat.reduceEqDiff, Int.reduceToNat, Int.reduceAdd, Int.reduceMul, Int.reduceSub, Int.reduceLT, Int.reduceLE, Int.reduceEq, Int.reduceNeg, Int.reduceBEq, Int.reduceBNe, ↓reduceIte, reduceCtorEq, startAns, hks, hb, hb0] <;> try simp (disch := omega) only [wrap_of])) | (refine And.intro ?_ ?_) | refine awp_skip ?_ | refine awp_ret ?_ | refine awp_exit ?_ | refine awp_label ?_ | refine awloop_step ?_ | fail)
    ((try simp only [go_sem, Nat.reduceAdd, Nat.reduceSub, Nat.reduceMul, Nat.reduceLeDiff, Nat.reduceLT, Nat.reduceEqDiff, Int.reduceToNat, Int.reduceAdd, Int.reduceMul, Int.reduceSub, Int.reduceLT, Int.reduceLE, Int.reduceEq, Int.reduceNeg, Int.reduceBEq, Int.reduceBNe, ↓reduceIte, reduceCtorEq]); (first | refine ⟨_, rfl, _, rfl, Fin.pure0 0 ?_⟩ | refine ⟨_, rfl, _, rfl, Fin.pure 1 ?_⟩); simp only [AV.low, List.map_cons, List.map_nil, aOne, aev, List.getElem?_cons_zero, List.getElem?_cons_succ, Option.getD_some, List.length_append, List.length_cons, List.length_nil, Nat.lt_irrefl, if_false]; try rfl)
    all_goals simp [ansC]
  | some vs =>
    by_cases h12 : 12 < p.vars.length
    · have h12' : decide (p.vars.length ≤ 12) = false := by simp; omega
      simp only [h12, if_true]
      (refine ARun.intro Try.func22 rfl Try.call22 Try.ntmps22 Try.results22 ?_; simp only [List.length_cons, List.length_nil, List.length_map, Nat.reduceAdd, Nat.reduceSub, List.replicate_succ, List.replicate_zero, List.cons_append, List.nil_append])
      repeat' (first | refine awp_seq ?_ | refine awp_block ?_ | refine awp_scope ?_ | ((first | refine awp_region_k fun Kn Kp hn hp => ?_ | refine oge_intro (by assumption) ?_ | (show AWE _ _ _ _ _ _ _ _ _; first | refine awe_intro (start_run p.vars hl _) ?_) | (show AWSF _ _ _ _ _ _ _ _ _ _ _; first | refine awsf_intro (start_run p.vars hl _) (fun hrun => ?_)) | (show OGE _ _ _ _ _ _ _; first | refine oge_intro (start_run p.vars hl _) ?_) | (show AWSE _ _ _ _ _ _ _ _ _ _ _; first | refine awse_intro (start_run p.vars hl _) (fun hrun => ?_)) | (show PGE _ _ _ _ _; first | refine pge_intro (start_run p.vars hl _) (fun tm' => ?_))) <;> (simp only [go_sem, Nat.reduceAdd, Nat.reduceSub, Nat.reduceMul, Nat.reduceLeDiff, Nat.reduceLT, Nat.reduceEqDiff, Int.reduceToNat, Int.reduceAdd, Int.reduceMul, Int.reduceSub, Int.reduceLT, Int.reduceLE, Int.reduceEq, Int.reduceNeg, Int.reduceBEq, Int.reduceBNe, ↓reduceIte, reduceCtorEq, startAns, hks, h12'] <;> try simp (disch := omega) only [wrap_of])) | (refine hn _ _ ?_; clear hn hp Kn Kp) | (refine hp _ _ _ ?_; clear hn hp Kn Kp) | (refine awp_cond rfl (fun hb => ?_) (fun hb => ?_) <;> (try simp only [decide_eq_true_eq, decide_eq_false_iff_not, Bool.not_eq_true', Bool.not_eq_false', Bool.true_eq_false, Bool.false_eq_true, beq_iff_eq, bne_iff_ne, bne_eq_false_iff_eq, beq_eq_false_iff_ne, gt_iff_lt, ge_iff_le, Int.reduceEq, Int.reduceNe, Int.reduceLT, Int.reduceLE, ne_eq, not_true_eq_false, not_false_eq_true] at hb)) | ((first | refine awg_split (fun hb => ?_) (fun hb => ?_) | refine awsg_split (fun hb => ?_) (fun hb => ?_)) <;> have hb0 := hb <;> (try simp only [decide_eq_true_eq, decide_eq_false_iff_not, Bool.not_eq_true', Bool.not_eq_false', Bool.true_eq_false, Bool.false_eq_true, beq_iff_eq, bne_iff_ne, bne_eq_false_iff_eq, beq_eq_false_iff_ne, gt_iff_lt, ge_iff_le, Int.reduceEq, Int.reduceNe, Int.reduceLT, Int.reduceLE, ne_eq, not_true_eq_false, not_false_eq_true] at hb0) <;> (try simp only [beq_true, beq_false, Bool.not_eq_true', Bool.not_eq_false'] at hb) <;> (simp only [go_sem, Nat.reduceAdd, Nat.reduceSub, Nat.reduceMul, Nat.reduceLeDiff, Nat.reduceLT, Nat.reduceEqDiff, Int.reduceToNat, Int.reduceAdd, Int.reduceMul, Int.reduceSub, Int.reduceLT, Int.reduceLE, Int.reduceEq, Int.reduceNeg, Int.reduceBEq, Int.reduceBNe, ↓reduceIte, reduceCtorEq, startAns, hks, h12', hb, hb0] <;> try simp (disch := omega) only [wrap_of])) | (refine And.intro ?_ ?_) | refine awp_skip ?_ | refine awp_ret ?_ | refine awp_exit ?_ | refine awp_label ?_ | refine awloop_step ?_ | fail)
      ((try simp only [go_sem, Nat.reduceAdd, Nat.reduceSub, Nat.reduceMul, Nat.reduceLeDiff, Nat.reduceLT, Nat.reduceEqDiff, Int.reduceToNat, Int.reduceAdd, Int.reduceMul, Int.reduceSub, Int.reduceLT, Int.reduceLE, Int.reduceEq, Int.reduceNeg, Int.reduceBEq, Int.reduceBNe, ↓reduceIte, reduceCtorEq]); (first | refine ⟨_, rfl, _, rfl, Fin.pure0 0 ?_⟩ | refine ⟨_, rfl, _, rfl, Fin.pure 1 ?_⟩); simp only [AV.low, List.map_cons, List.map_nil, aOne, aev, List.getElem?_cons_zero, List.getElem?_cons_succ, Option.getD_some, List.length_append, List.length_cons, List.length_nil, Nat.lt_irrefl, if_false]; try rfl)
      all_goals simp [ansC]
    · have h12' : decide (p.vars.length ≤ 12) = true := by simp; omega
      simp only [h12, if_false]
      have hvs := ksL_ok hks
      obtain ⟨⟨a0, b0⟩, ⟨a1, b1⟩, ⟨a2, b2⟩, ⟨a3, b3⟩, ⟨a4, b4⟩⟩ := hok
      have c0 := fun H0 => handler_run vs hvs p.on0 a0 b0 H0
      have c1 := fun H0 => handler_run vs hvs p.on1 a1 b1 H0
      have c2 := fun H0 => handler_run vs hvs p.on2 a2 b2 H0
      have c3 := fun H0 => handler_run vs hvs p.on3 a3 b3 H0
      have c4 := fun H0 => handler_run vs hvs p.on4 a4 b4 H0
      unfold evS
      (refine ARun.intro Try.func22 rfl Try.call22 Try.ntmps22 Try.results22 ?_; simp only [List.length_cons, List.length_nil, List.length_map, Nat.reduceAdd, Nat.reduceSub, List.replicate_succ, List.replicate_zero, List.cons_append, List.nil_append])
      repeat' (first | refine awp_seq ?_ | refine awp_block ?_ | refine awp_scope ?_ | ((first | refine awp_region_k fun Kn Kp hn hp => ?_ | refine oge_intro (by assumption) ?_ | (show AWE _ _ _ _ _ _ _ _ _; first | refine awe_intro (start_run p.vars hl _) ?_) | (show AWSF _ _ _ _ _ _ _ _ _ _ _; first | refine awsf_intro (start_run p.vars hl _) (fun hrun => ?_)) | (show OGE _ _ _ _ _ _ _; first | refine oge_intro (start_run p.vars hl _) ?_) | (show AWSE _ _ _ _ _ _ _ _ _ _ _; first | refine awse_intro (start_run p.vars hl _) (fun hrun => ?_)) | (show PGE _ _ _ _ _; first | refine pge_intro (start_run p.vars hl _) (fun tm' => ?_))) <;> (simp only [go_sem, Nat.reduceAdd, Nat.reduceSub, Nat.reduceMul, Nat.reduceLeDiff, Nat.reduceLT, Nat.reduceEqDiff, Int.reduceToNat, Int.reduceAdd, Int.reduceMul, Int.reduceSub, Int.reduceLT, Int.reduceLE, Int.reduceEq, Int.reduceNeg, Int.reduceBEq, Int.reduceBNe, ↓reduceIte, reduceCtorEq, startAns, hks, h12'] <;> try simp (disch := omega) only [wrap_of])) | (refine hn _ _ ?_; clear hn hp Kn Kp) | (refine hp _ _ _ ?_; clear hn hp Kn Kp) | (refine awp_cond rfl (fun hb => ?_) (fun hb => ?_) <;> (try simp only [decide_eq_true_eq, decide_eq_false_iff_not, Bool.not_eq_true', Bool.not_eq_false', Bool.true_eq_false, Bool.false_eq_true, beq_iff_eq, bne_iff_ne, bne_eq_false_iff_eq, beq_eq_false_iff_ne, gt_iff_lt, ge_iff_le, Int.reduceEq, Int.reduceNe, Int.reduceLT, Int.reduceLE, ne_eq, not_true_eq_false, not_false_eq_true] at hb)) | ((first | refine awg_split (fun hb => ?_) (fun hb => ?_) | refine awsg_split (fun hb => ?_) (fun hb => ?_)) <;> have hb0 := hb <;> (try simp only [decide_eq_true_eq, decide_eq_false_iff_not, Bool.not_eq_true', Bool.not_eq_false', Bool.true_eq_false, Bool.false_eq_true, beq_iff_eq, bne_iff_ne, bne_eq_false_iff_eq, beq_eq_false_iff_ne, gt_iff_lt, ge_iff_le, Int.reduceEq, Int.reduceNe, Int.reduceLT, Int.reduceLE, ne_eq, not_true_eq_false, not_false_eq_true] at hb0) <;> (try simp only [beq_true, beq_false, Bool.not_eq_true', Bool.not_eq_false'] at hb) <;> (simp only [go_sem, Nat.reduceAdd, Nat.reduceSub, Nat.reduceMul, Nat.reduceLeDiff, Nat.reduceLT, Nat.reduceEqDiff, Int.reduceToNat, Int.reduceAdd, Int.reduceMul, Int.reduceSub, Int.reduceLT, Int.reduceLE, Int.reduceEq, Int.reduceNeg, Int.reduceBEq, Int.reduceBNe, ↓reduceIte, reduceCtorEq, startAns, hks, h12', hb, hb0] <;> try simp (disch := omega) only [wrap_of])) | (refine And.intro ?_ ?_) | refine awp_skip ?_ | refine awp_ret ?_ | refine awp_exit ?_ | refine awp_label ?_ | refine awloop_step ?_ | fail)
      refine awp_loop 6 ?_
      repeat' (first | refine awp_seq ?_ | refine awp_block ?_ | refine awp_scope ?_ | ((first | refine awp_region_k fun Kn Kp hn hp => ?_ | refine oge_intro (by assumption) ?_ | (show AWE _ _ _ _ _ _ _ _ _; first | refine awe_intro (c0 _) ?_ | refine awe_intro (c1 _) ?_ | refine awe_intro (c2 _) ?_ | refine awe_intro (c3 _) ?_ | refine awe_intro (c4 _) ?_) | (show AWSF _ _ _ _ _ _ _ _ _ _ _; first | refine awsf_intro (c0 _) (fun hrun => ?_) | refine awsf_intro (c1 _) (fun hrun => ?_) | refine awsf_intro (c2 _) (fun hrun => ?_) | refine awsf_intro (c3 _) (fun hrun => ?_) | refine awsf_intro (c4 _) (fun hrun => ?_)) | (show OGE _ _ _ _ _ _ _; first | refine oge_intro (c0 _) ?_ | refine oge_intro (c1 _) ?_ | refine oge_intro (c2 _) ?_ | refine oge_intro (c3 _) ?_ | refine oge_intro (c4 _) ?_) | (show AWSE _ _ _ _ _ _ _ _ _ _ _; first | refine awse_intro (c0 _) (fun hrun => ?_) | refine awse_intro (c1 _) (fun hrun => ?_) | refine awse_intro (c2 _) (fun hrun => ?_) | refine awse_intro (c3 _) (fun hrun => ?_) | refine awse_intro (c4 _) (fun hrun => ?_)) | (show PGE _ _ _ _ _; first | refine pge_intro (c0 _) (fun tm' => ?_) | refine pge_intro (c1 _) (fun tm' => ?_) | refine pge_intro (c2 _) (fun tm' => ?_) | refine pge_intro (c3 _) (fun tm' => ?_) | refine pge_intro (c4 _) (fun tm' => ?_))) <;> (simp only [go_sem, Nat.reduceAdd, Nat.reduceSub, Nat.reduceMul, Nat.reduceLeDiff, Nat.reduceLT, Nat.reduceEqDiff, Int.reduceToNat, Int.reduceAdd, Int.reduceMul, Int.reduceSub, Int.reduceLT, Int.reduceLE, Int.reduceEq, Int.reduceNeg, Int.reduceBEq, Int.reduceBNe, ↓reduceIte, reduceCtorEq, Int.reduceAdd] <;> try simp (disch := omega) only [wrap_of])) | (refine hn _ _ ?_; clear hn hp Kn Kp) | (refine hp _ _ _ ?_; clear hn hp Kn Kp) | (refine awp_cond rfl (fun hb => ?_) (fun hb => ?_) <;> (try simp only [decide_eq_true_eq, decide_eq_false_iff_not, Bool.not_eq_true', Bool.not_eq_false', Bool.true_eq_false, Bool.false_eq_true, beq_iff_eq, bne_iff_ne, bne_eq_false_iff_eq, beq_eq_false_iff_ne, gt_iff_lt, ge_iff_le, Int.reduceEq, Int.reduceNe, Int.reduceLT, Int.reduceLE, ne_eq, not_true_eq_false, not_false_eq_true] at hb)) | ((first | refine awg_split (fun hb => ?_) (fun hb => ?_) | refine awsg_split (fun hb => ?_) (fun hb => ?_)) <;> have hb0 := hb <;> (try simp only [decide_eq_true_eq, decide_eq_false_iff_not, Bool.not_eq_true', Bool.not_eq_false', Bool.true_eq_false, Bool.false_eq_true, beq_iff_eq, bne_iff_ne, bne_eq_false_iff_eq, beq_eq_false_iff_ne, gt_iff_lt, ge_iff_le, Int.reduceEq, Int.reduceNe, Int.reduceLT, Int.reduceLE, ne_eq, not_true_eq_false, not_false_eq_true] at hb0) <;> (try simp only [beq_true, beq_false, Bool.not_eq_true', Bool.not_eq_false'] at hb) <;> (simp only [go_sem, Nat.reduceAdd, Nat.reduceSub, Nat.reduceMul, Nat.reduceLeDiff, Nat.reduceLT, Nat.reduceEqDiff, Int.reduceToNat, Int.reduceAdd, Int.reduceMul, Int.reduceSub, Int.reduceLT, Int.reduceLE, Int.reduceEq, Int.reduceNeg, Int.reduceBEq, Int.reduceBNe, ↓reduceIte, reduceCtorEq, Int.reduceAdd, hb, hb0] <;> try simp (disch := omega) only [wrap_of])) | (refine And.intro ?_ ?_) | refine awp_skip ?_ | refine awp_ret ?_ | refine awp_exit ?_ | refine awp_label ?_ | refine awloop_step ?_ | fail)
      all_goals
        ((try simp only [go_sem, Nat.reduceAdd, Nat.reduceSub, Nat.reduceMul, Nat.reduceLeDiff, Nat.reduceLT, Nat.reduceEqDiff, Int.reduceToNat, Int.reduceAdd, Int.reduceMul, Int.reduceSub, Int.reduceLT, Int.reduceLE, Int.reduceEq, Int.reduceNeg, Int.reduceBEq, Int.reduceBNe, ↓reduceIte, reduceCtorEq]); (first | refine ⟨_, rfl, _, rfl, Fin.pure0 0 ?_⟩ | refine ⟨_, rfl, _, rfl, Fin.pure 1 ?_⟩); simp only [AV.low, List.map_cons, List.map_nil, aOne, aev, List.getElem?_cons_zero, List.getElem?_cons_succ, Option.getD_some, List.length_append, List.length_cons, List.length_nil, Nat.lt_irrefl, if_false]; try rfl)
        simp [ansC, *]
end Go.Proofs.Ytpfjlifneibhfaa.Y
namespace Go.Proofs.Ytpfjlifneibhfaa.AL
def xw : Ex := .mk 2 0 0 []
def xnum (n u : Int) : Ex := .mk 1 n u []
def xtwo (op : Int) (a b : Ex) : Ex := .mk op 0 0 [a, b]
theorem hd1 : isS (xtwo 4 xw (xnum 1 1)) ⟨1, 0, 0⟩ = true := by decide
theorem hd2 : failsS (xtwo 4 xw (xnum 1 0)) 13 = true := by decide
end Go.Proofs.Ytpfjlifneibhfaa.AL
namespace Go.Proofs.Ytpfjlifneibhfaa.Y
open Go.Proofs.Ytpfjlifneibhfaa.AL Go.Proofs Go
attribute [local irreducible] AWP AWL AWG AWR AWE AWX AWO AWSeq AWSG AWSR AWSO AWSE AWSF GoodP OGW OGR OGE OGX PGW PGR PGE Wk AWLoop AWPD AWLD
def uz : Un := ⟨0, 0, 0⟩
def u1 (acc : List Un) : Un := acc[1]?.getD uz
end Go.Proofs.Ytpfjlifneibhfaa.Y
namespace Go.Proofs.Ytpfjlifneibhfaa.AL
end Go.Proofs.Ytpfjlifneibhfaa.AL
namespace Go.Proofs.Ytpfjlifneibhfaa.Y
open Go.Proofs.Ytpfjlifneibhfaa.AL Go.Proofs Go
attribute [local irreducible] AWP AWL AWG AWR AWE AWX AWO AWSeq AWSG AWSR AWSO AWSE AWSF GoodP OGW OGR OGE OGX PGW PGR PGE Wk AWLoop AWPD AWLD
theorem hasUnit_run (l : List Vr) (k u : Int) (hl : l.length ≤ 2000000) (H0 : List AObj) :
    ARun Try.prog 23 [.rs 5 (l.map encV), .i k, .i u] H0 (.ret (.b (usesB l k u)) H0) := by
  by_cases hk : 0 ≤ k ∧ k < l.length
  · have hlt : k.toNat < l.length := by omega
    have hv := getEV hlt
    have hl' : (l.map encV)[k.toNat]? = some (cV (l.getD k.toNat dV)) := by rw [List.getElem?_map, hv]; rfl
    (refine ARun.intro Try.func23 rfl Try.call23 Try.ntmps23 Try.results23 ?_; simp only [List.length_cons, List.length_nil, List.length_map, Nat.reduceAdd, Nat.reduceSub, List.replicate_succ, List.replicate_zero, List.cons_append, List.nil_append])
    (have ww1 := hl'; refine wkO ?_; clear ww1; (repeat' first | exact True.intro | refine Lf.mk ?_ ?_); all_goals intro hP)
    all_goals ((refine resX ?_; try exact True.intro))
    all_goals (unfold usesB; rw [hv]; simp [hk])
  · (refine ARun.intro Try.func23 rfl Try.call23 Try.ntmps23 Try.results23 ?_; simp only [List.length_cons, List.length_nil, List.length_map, Nat.reduceAdd, Nat.reduceSub, List.replicate_succ, List.replicate_zero, List.cons_append, List.nil_append])
    (refine wkO ?_; (repeat' first | exact True.intro | refine Lf.mk ?_ ?_); all_goals intro hP)
    all_goals ((refine resX ?_; try exact True.intro))
    all_goals (unfold usesB; rw [decide_eq_false hk, Bool.false_and])
theorem zeroBool : aZero1 Try.prog 4 = some (.bool false) := by kernel_rfl
theorem CValid_run (p : Prg) (hl : p.vars.length ≤ 1000000) (hok : okP p) (hz : p.name.size ≤ 2000000) (hzv : ∀ v ∈ p.vars, v.name.size ≤ 2000000) (H0 : List AObj) :
    ARun Try.prog 14 [.ag (cP p)] H0 (.ret (.b (validB p)) H0) := by
  rw [← ctlB_eq]
  have n1 := fun H0 => nameC_run p.name hz H0
  by_cases hlen : 1 ≤ p.vars.length ∧ p.vars.length ≤ 12
  · obtain ⟨len1, len2⟩ := hlen
    cases hnm : nameB p.name with
    | false =>
      rw [hnm] at n1
      have hr : ctlB p = false := by unfold ctlB; rw [hnm]; simp
      rw [hr]
      clear hr
      (refine ARun.intro Try.func14 rfl Try.call14 Try.ntmps14 Try.results14 ?_; simp only [List.length_cons, List.length_nil, List.length_map, Nat.reduceAdd, Nat.reduceSub, List.replicate_succ, List.replicate_zero, List.cons_append, List.nil_append])
      (have cc1 := fun z1 => n1 z1; refine wkO ?_; clear cc1; (repeat' first | exact True.intro | refine Lf.mk ?_ ?_); all_goals intro hP)
      (refine resX ?_; try exact True.intro)
    | true =>
      rw [hnm] at n1
      have hr : ctlB p = (onceC p.vars [] && (decide ((checkS p).1 < 0) && (decide ((checkS p).2 = 0) && (usesB p.vars p.window 1 && (decide (p.pace = -1) || usesB p.vars p.pace 4))))) := by
        unfold ctlB; rw [hnm, decide_eq_true len1, decide_eq_true len2]; simp
      rw [hr]
      clear hr
      have c1 := fun H0 => Check_run p hl hok H0
      have c2 := fun H0 => hasUnit_run p.vars p.window 1 (by omega) H0
      have c3 := fun H0 => hasUnit_run p.vars p.pace 4 (by omega) H0
      have zb := zeroBool
      (refine ARun.intro Try.func14 rfl Try.call14 Try.ntmps14 Try.results14 ?_; simp only [List.length_cons, List.length_nil, List.length_map, Nat.reduceAdd, Nat.reduceSub, List.replicate_succ, List.replicate_zero, List.cons_append, List.nil_append])
      (have cc1 := fun z1 => n1 z1; refine wkO ?_; clear cc1; (repeat' first | exact True.intro | refine Lf.mk ?_ ?_); all_goals intro hP)
      refine awp_loop_ind (σ := Nat) (fun k => p.vars.length - k) (fun k => k ≤ p.vars.length ∧ onceC p.vars [] = onceC (p.vars.drop k) ((p.vars.take k).map (·.name)))
        (fun k => (.any :: .p H0.length 0 :: .any :: .mp (H0.length + 1) :: .any :: .any :: .any :: .any :: .any :: .any :: .any :: .any :: .any :: .any :: .any :: .any :: .any :: .any :: .any :: .any :: .any :: .any :: .any :: .any :: .any :: .any :: .rs 5 (p.vars.map encV) :: .i p.vars.length :: .i k :: .any :: .any :: .any :: .any :: .any :: .any :: .any :: .any :: .any :: .any :: .any :: .any :: .any :: .any :: .any :: .any :: .any :: .any :: .any :: .any :: .any :: .any :: .any :: .any :: .any :: .any :: .any :: .any :: .any :: .any :: .any :: .any :: .any :: .any :: .any :: .any :: .any :: .any :: .any :: .any :: .any :: .any :: .any :: .any :: .any :: .any :: .any :: .any :: .any :: .any :: .any :: .any :: .any :: .any :: .any :: .any :: .any :: .any :: .any :: .any :: .any :: .any :: .any :: .any :: .any :: .any :: .any :: .any :: .any :: .any :: .any :: []))
        (fun k => H0 ++ [.cells 34 ((cP p).map AV.pv), .smap (seenM ((p.vars.take k).map (·.name)))]) 0 ⟨Nat.zero_le _, by simp⟩ (by (refine fgtX ?_; try exact True.intro)) ?_
      rintro k ⟨k1, k2⟩
      have hw : IntKind.i64.wrap ((k : Int) + 1) = ((k + 1 : Nat) : Int) := by rw [wrap_of (by omega) (by omega)]; omega
      cases hd : p.vars.drop k with
      | nil =>
        have hk : p.vars.length ≤ k := List.drop_eq_nil_iff.1 hd
        rw [hd] at k2
        rw [k2, show onceC [] ((p.vars.take k).map (·.name)) = true from rfl, Bool.true_and]
        clear k2 zb
        have hans : ∀ x, ansC x = .tup [.i x.1, .i x.2] := fun x => rfl
        generalize hS : seenM ((p.vars.take k).map (·.name)) = S
        generalize checkS p = c at c1 ⊢
        cases hu1 : usesB p.vars p.window 1 <;> cases hu2 : usesB p.vars p.pace 4
        all_goals
          rw [hu1] at c2
          rw [hu2] at c3
          (have ww1 := hans; have cc1 := fun z1 => c1 z1; have cc2 := fun z1 => c2 z1; have cc3 := fun z1 => c3 z1; refine wkO ?_; clear ww1 cc1 cc2 cc3; (repeat' first | exact True.intro | refine Lf.mk ?_ ?_); all_goals intro hP)
          all_goals clear c1 c2 c3 n1
          all_goals ((refine resX ?_; try exact True.intro))
          all_goals (refine congrArg (fun b => AV.pv (PV.sc (Value.bool b))) ?_; rw [Bool.eq_iff_iff]; simp <;> omega)
      | cons v r =>
        have hk : k < p.vars.length := by have := congrArg List.length hd; simp at this; omega
        rw [hd] at k2
        obtain ⟨hvk, _, hr, hm⟩ := drop_cons hd
        have hl' : (p.vars.map encV)[k]? = some (cV v) := by rw [List.getElem?_map, hvk]; rfl
        have n2 := fun H0 => nameC_run v.name (hzv v hm) H0
        have hsn : (p.vars.take (k + 1)).map (·.name) = (p.vars.take k).map (·.name) ++ [v.name] := by
          rw [List.take_add_one, hvk]; simp
        have hlk := lookS_seen ((p.vars.take k).map (·.name)) v.name (.bool false)
        cases hin : inB ((p.vars.take k).map (·.name)) v.name with
        | true =>
          rw [hin, if_pos rfl] at hlk
          have hf : onceC p.vars [] = false := by rw [k2, onceC, hin]; rfl
          rw [hf, Bool.false_and]
          (have ww1 := hl'; have ww2 := hlk; have ww3 := zb; have cc1 := fun z1 => n2 z1; refine wkO ?_; clear ww1 ww2 ww3 cc1; (repeat' first | exact True.intro | refine Lf.mk ?_ ?_); all_goals intro hP)
          (refine resX ?_; try exact True.intro)
        | false =>
          rw [hin, if_neg Bool.false_ne_true] at hlk
          have hput := putS_seen ((p.vars.take k).map (·.name)) v.name hin
          rw [← hsn] at hput
          rw [onceC, hin, ← hsn] at k2
          cases hn2 : nameB v.name with
          | false =>
            rw [hn2] at n2
            have hf : onceC p.vars [] = false := by rw [k2, varC, hn2]; simp
            rw [hf, Bool.false_and]
            (have ww1 := hl'; have ww2 := hlk; have ww3 := zb; have cc1 := fun z1 => n2 z1; refine wkO ?_; clear ww1 ww2 ww3 cc1; (repeat' first | exact True.intro | refine Lf.mk ?_ ?_); all_goals intro hP)
            (refine resX ?_; try exact True.intro)
          | true =>
            rw [hn2] at n2
            have hvc : varC v = decide (0 ≤ v.low ∧ v.low ≤ v.init ∧ v.init ≤ v.high ∧ v.high ≤ 1000000000) := by unfold varC; rw [hn2, Bool.true_and]
            (have ww1 := hl'; have ww2 := hlk; have ww3 := zb; have ww4 := hput; have ww5 := hw; have cc1 := fun z1 => n2 z1; refine wkO ?_; clear ww1 ww2 ww3 ww4 ww5 cc1; (repeat' first | exact True.intro | refine Lf.mk ?_ ?_); all_goals intro hP)
            all_goals first
              | (refine ⟨k + 1, by omega, ⟨by omega, k2.trans (by rw [hvc, decide_eq_true (by omega), hr, Bool.not_false, Bool.true_and, Bool.true_and])⟩, ?_⟩; refine Wk.keepE 2 1 rfl (by simp) ?_ ?_; (intro o ho; simp only [List.mem_cons, List.not_mem_nil, or_false] at ho; rcases ho with rfl | rfl; (simp [AObj.under, AV.under]); (trivial)); (simp only [List.map_cons, List.map_nil, AV.low, List.length_append, List.length_cons, List.length_nil, Nat.lt_irrefl, if_false, Fgt, Int.natCast_zero, Int.cast_ofNat_Int, Int.ofNat_eq_natCast, true_or, or_true, true_and, and_true, and_self, eq_self]; simp); done)
              | ((refine resX ?_; try exact True.intro); rw [k2, hvc, decide_eq_false (by omega)]; simp; done)
  · have hr : ctlB p = false := by
      unfold ctlB
      by_cases h : 1 ≤ p.vars.length
      · rw [decide_eq_false (show ¬ p.vars.length ≤ 12 by omega)]; simp
      · rw [decide_eq_false h]; simp
    rw [hr]
    clear hr
    cases hnm : nameB p.name
    all_goals
      rw [hnm] at n1
      (refine ARun.intro Try.func14 rfl Try.call14 Try.ntmps14 Try.results14 ?_; simp only [List.length_cons, List.length_nil, List.length_map, Nat.reduceAdd, Nat.reduceSub, List.replicate_succ, List.replicate_zero, List.cons_append, List.nil_append])
      (have cc1 := fun z1 => n1 z1; refine wkO ?_; clear cc1; (repeat' first | exact True.intro | refine Lf.mk ?_ ?_); all_goals intro hP)
      all_goals ((refine resX ?_; try exact True.intro))
end Go.Proofs.Ytpfjlifneibhfaa.Y
namespace Go.Proofs.Ytpfjlifneibhfaa.AL
variable [G : GTab]
theorem awpd_off {P : Program} {H0 : List AObj} {c : Code} {Q : AEx → List AV → List AObj → List ADef → Prop} {tm : List AV} {H : List AObj} {AD : List ADef}
    (h : AWP P H c (fun x tm H => Q x tm H AD) tm H) : AWPD P H0 c Q tm H AD := awpd_of h (fun _ _ _ h => h)
theorem Wk.dropE {H0 H L : List AObj} {tm tm' : List AV} (e : H = H0 ++ L) (d : Nat) (ht : Fgt (tm.map fun c => c.low H H0.length d) tm') : Wk H0 tm H tm' H0 := by
  subst e; exact Wk.drop0 d ht
end Go.Proofs.Ytpfjlifneibhfaa.AL
namespace Go.Proofs.Ytpfjlifneibhfaa.AL
section
variable {i0 i1 i2 i3 j0 j1 j2 j3 k : Int} (hj : ∀ n : Int, 0 ≤ n → n < 4 → n ≠ k → inS j0 j1 j2 j3 n.toNat = inS i0 i1 i2 i3 n.toNat)
include hj
end
end Go.Proofs.Ytpfjlifneibhfaa.AL
namespace Go.Proofs.Ytpfjlifneibhfaa.Y
open Go.Proofs.Ytpfjlifneibhfaa.AL Go.Proofs Go
attribute [local irreducible] AWP AWL AWG AWR AWE AWX AWO AWSeq AWSG AWSR AWSO AWSE AWSF GoodP OGW OGR OGE OGX PGW PGR PGE Wk AWLoop AWPD AWLD
theorem MCall_run (x : Cal) (H0 : List AObj) :
    ARun Try.prog 24 [agL x] H0 (.ret (.b (callOk x)) H0) := by
  (refine ARun.intro Try.func24 rfl Try.call24 Try.ntmps24 Try.results24 ?_; simp only [List.length_cons, List.length_nil, List.length_map, Nat.reduceAdd, Nat.reduceSub, List.replicate_succ, List.replicate_zero, List.cons_append, List.nil_append])
  (refine wkO ?_; (repeat' first | exact True.intro | refine Lf.mk ?_ ?_); all_goals intro hP)
  refine awp_loop 5 ?_
  (refine wkO ?_; (repeat' first | exact True.intro | refine Lf.mk ?_ ?_); all_goals intro hP)
  all_goals ((try rw [show callOk x = false from decide_neg' (by omega)]); (try rw [show callOk x = true from decide_pos' (by omega)]); (refine resX ?_; try exact True.intro); try (rw [show callOk x = decide (x.ev < 5) from decide_eq_decide.2 ⟨fun h => by omega, fun h => by omega⟩]))
theorem nR_toPVs (H : List AObj) (m d : Nat) (l : List Int) : AV.toPVs H m d (nR l) = some (rI l) := by unfold nR pvRows; rw [toPVs_pvs]
/-- The first state of a program. -/
def startR (p : Prg) : Except Int (List Int) := if validB p then .ok (p.vars.map (·.init)) else .error 1
theorem MStart_run (p : Prg) (hl : p.vars.length ≤ 1000000) (hok : okP p) (hz : p.name.size ≤ 2000000) (hzv : ∀ v ∈ p.vars, v.name.size ≤ 2000000) (H0 : List AObj) :
    ARun Try.prog 7 [.ag (cP p)] H0 (.ret (.tup [.rs 1 (rI (runL (startR p))), .i (runE (startR p))]) H0) := by
  have cW := fun H => CValid_run p hl hok hz hzv H
  unfold startR
  cases hval : validB p with
  | false =>
    rw [hval] at cW
    simp only [Bool.false_eq_true, if_false, runL, runE]
    (refine ARun.intro Try.func7 rfl Try.call7 Try.ntmps7 Try.results7 ?_; simp only [List.length_cons, List.length_nil, List.length_map, Nat.reduceAdd, Nat.reduceSub, List.replicate_succ, List.replicate_zero, List.cons_append, List.nil_append])
    (have cc1 := fun z1 => cW z1; refine wk ?_; clear cc1; (repeat' first | exact True.intro | refine Lf.mk ?_ ?_); all_goals intro hP)
    (refine resC ?_; (repeat' (first | exact True.intro | refine Lf.mk ?_ ?_)))
    (repeat' (first | exact trivial | exact Cv.refl _ | exact Cv.nil (Nat.succ_pos _) | exact PCv.refl _ | exact PCv.nil (Nat.succ_pos _) | refine And.intro ?_ ?_ | refine Cv.agg ?_ | refine Cv.tup ?_ | refine Cv.pv (PCv.rs ?_) | refine PCv.rs ?_))
  | true =>
    rw [hval] at cW
    simp only [if_true, runL, runE]
    (refine ARun.intro Try.func7 rfl Try.call7 Try.ntmps7 Try.results7 ?_; simp only [List.length_cons, List.length_nil, List.length_map, Nat.reduceAdd, Nat.reduceSub, List.replicate_succ, List.replicate_zero, List.cons_append, List.nil_append])
    (have cc1 := fun z1 => cW z1; refine wk ?_; clear cc1; (repeat' first | exact True.intro | refine Lf.mk ?_ ?_); all_goals intro hP)
    refine awp_loop_ind (σ := Nat) (fun k => p.vars.length - k) (fun k => k ≤ p.vars.length)
      (fun k => (.any :: .p H0.length 0 :: .any :: .any :: .os (H0.length + 1) 0 k k :: .any :: .any :: .any :: .any :: .any :: .any :: .rs 5 (p.vars.map encV) :: .i p.vars.length :: .i k :: .any :: .any :: .any :: .any :: .any :: .any :: .any :: .any :: .any :: .any :: []))
      (fun k => H0 ++ [.cells 34 ((cP p).map AV.pv), .arr 3 1 (nR ((p.vars.take k).map (·.init)))]) 0 (Nat.zero_le _) (Wk.ghostL 4 1 3 (sz := 1) (by omega) rfl rfl rfl (by (refine fgX ?_; try exact True.intro))) ?_
    rintro k k1
    have hw : IntKind.i64.wrap ((k : Int) + 1) = ((k + 1 : Nat) : Int) := by rw [wrap_of (by omega) (by omega)]; omega
    have ln : (nR ((p.vars.take k).map (·.init))).length = k := by rw [nR_len, List.length_map, List.length_take]; omega
    cases hr : p.vars.drop k with
    | nil =>
      have hlt := drop_nil hr
      have hk : p.vars.length ≤ k := List.drop_eq_nil_iff.1 hr
      rw [List.take_of_length_le hk] at ln ⊢
      (have ww1 := hlt; refine wk ?_; clear ww1; (repeat' first | exact True.intro | refine Lf.mk ?_ ?_); all_goals intro hP)
      (refine resC ?_; (repeat' (first | exact True.intro | refine Lf.mk ?_ ?_)))
      rw [if_pos ln, List.take_of_length_le (by omega), nR_toPVs]
      exact Cv.refl _
    | cons v rest =>
      obtain ⟨hv, hlt, hd, hm⟩ := drop_cons hr
      have hv' : (p.vars.map encV)[k]? = some (cV v) := by rw [List.getElem?_map, hv]; rfl
      have p1 := nR_one ((p.vars.take k).map (·.init)) v.init
      (have ww1 := hlt; have ww2 := hv'; have ww3 := hw; have ww4 := p1; have ww5 := ln; refine wkO ?_; clear ww1 ww2 ww3 ww4 ww5; (repeat' first | exact True.intro | refine Lf.mk ?_ ?_); all_goals intro hP)
      refine ⟨k + 1, by omega, by omega, ?_⟩
      rw [List.take_add_one, hv, List.map_append]
      refine Wk.keepE 2 1 rfl (by simp) (by intro o ho; simp only [List.mem_cons, List.not_mem_nil, or_false] at ho; rcases ho with rfl | rfl; (simp [AObj.under, AV.under]); exact under_pvRows _) ?_
      simp only [List.map_cons, List.map_nil, AV.low, List.length_append, List.length_cons, List.length_nil, Nat.lt_irrefl, if_false, Fgt, true_or, or_true, and_true, true_and, Nat.lt_add_right_iff_pos, Nat.add_lt_add_iff_left, Nat.lt_add_one, Nat.reduceLT, if_true, eq_self, Nat.zero_add]
/-- What Eval comes to. -/
def evalR (st : List Int) (i0 i1 i2 i3 : Int) (e : Ex) : Except Int Int := if 60 < size e 60 then .error 2 else valE st i0 i1 i2 i3 e
theorem MEval_run (st : List Int) (hst : st.length ≤ 1000000) (i0 i1 i2 i3 : Int) (e : Ex) (H0 : List AObj) :
    ARun Try.prog 13 [.rs 1 (rI st), .agg [.i i0, .i i1, .i i2, .i i3], .ag (cE e)] H0 (.ret (.tup [.i (vN (evalR st i0 i1 i2 i3 e)), .i (eN (evalR st i0 i1 i2 i3 e))]) H0) := by
  have cS := fun H => msize_run e 60 H (by omega) (by omega)
  unfold evalR
  by_cases hs : 60 < size e 60
  · rw [if_pos hs]
    (refine ARun.introD Try.func13 rfl Try.call13 Try.ntmps13 Try.results13 ?_; simp only [List.length_cons, List.length_nil, List.length_map, Nat.reduceAdd, Nat.reduceSub, List.replicate_succ, List.replicate_zero, List.cons_append, List.nil_append])
    repeat' (first | refine awpd_seq ?_ | refine awp_block ?_ | (refine awpd_defer (id := 3) ?_; simp only [AWLD, go_sem, Nat.reduceAdd, Nat.reduceSub, Nat.reduceMul, Nat.reduceLeDiff, Nat.reduceLT, Nat.reduceEqDiff, Int.reduceToNat, Int.reduceAdd, Int.reduceMul, Int.reduceSub, Int.reduceLT, Int.reduceLE, Int.reduceEq, Int.reduceNeg, Int.reduceBEq, Int.reduceBNe, ↓reduceIte, reduceCtorEq, hs]) | ((first | refine awpd_region_k fun Kn Kp hn hp => ?_ | show AWPD _ _ (Code.region 4 _ true) _ _ _ _; refine awpd_drawn_k (id := 4) [2, 4] [] [.win [0, 1], .win [0, 1], .eff 0, .win [1], .eff 1, .win [2]] 2 rfl (by as_aux_lemma => kernel_rfl) fun Kn Kp hn hp => ?_ | refine oge_intro (by assumption) ?_ | (show AWE _ _ _ _ _ _ _ _ _; first | refine awe_intro (cS _) ?_) | (show AWSF _ _ _ _ _ _ _ _ _ _ _; first | refine awsf_intro (cS _) (fun hrun => ?_)) | (show OGE _ _ _ _ _ _ _; first | refine oge_intro (cS _) ?_) | (show AWSE _ _ _ _ _ _ _ _ _ _ _; first | refine awse_intro (cS _) (fun hrun => ?_)) | (show PGE _ _ _ _ _; first | refine pge_intro (cS _) (fun tm' => ?_))) <;> (simp only [go_sem, Nat.reduceAdd, Nat.reduceSub, Nat.reduceMul, Nat.reduceLeDiff, Nat.reduceLT, Nat.reduceEqDiff, Int.reduceToNat, Int.reduceAdd, Int.reduceMul, Int.reduceSub, Int.reduceLT, Int.reduceLE, Int.reduceEq, Int.reduceNeg, Int.reduceBEq, Int.reduceBNe, ↓reduceIte, reduceCtorEq, hs] <;> try simp (disch := omega) only [wrap_of])) | (refine hn _ _ ?_; clear hn hp Kn Kp) | (refine hp _ _ _ ?_; clear hn hp Kn Kp) | (refine awpd_cond rfl (fun hb => ?_) (fun hb => ?_) <;> (try simp only [decide_eq_true_eq, decide_eq_false_iff_not, Bool.not_eq_true', Bool.not_eq_false', Bool.true_eq_false, Bool.false_eq_true, beq_iff_eq, bne_iff_ne, bne_eq_false_iff_eq, beq_eq_false_iff_ne, gt_iff_lt, ge_iff_le, Int.reduceEq, Int.reduceNe, Int.reduceLT, Int.reduceLE, ne_eq, not_true_eq_false, not_false_eq_true] at hb)) | ((first | refine awg_split (fun hb => ?_) (fun hb => ?_) | refine awsg_split (fun hb => ?_) (fun hb => ?_)) <;> have hb0 := hb <;> (try simp only [decide_eq_true_eq, decide_eq_false_iff_not, Bool.not_eq_true', Bool.not_eq_false', Bool.true_eq_false, Bool.false_eq_true, beq_iff_eq, bne_iff_ne, bne_eq_false_iff_eq, beq_eq_false_iff_ne, gt_iff_lt, ge_iff_le, Int.reduceEq, Int.reduceNe, Int.reduceLT, Int.reduceLE, ne_eq, not_true_eq_false, not_false_eq_true] at hb0) <;> (try simp only [beq_true, beq_false, Bool.not_eq_true', Bool.not_eq_false'] at hb) <;> (simp only [go_sem, Nat.reduceAdd, Nat.reduceSub, Nat.reduceMul, Nat.reduceLeDiff, Nat.reduceLT, Nat.reduceEqDiff, Int.reduceToNat, Int.reduceAdd, Int.reduceMul, Int.reduceSub, Int.reduceLT, Int.reduceLE, Int.reduceEq, Int.reduceNeg, Int.reduceBEq, Int.reduceBNe, ↓reduceIte, reduceCtorEq, hs, hb, hb0] <;> try simp (disch := omega) only [wrap_of])) | (refine And.intro ?_ ?_) | refine awpd_ret ?_ | refine awpd_skip ?_ | refine awloop_step ?_ | fail)
    (refine resX ?_; try exact True.intro)
  · rw [if_neg hs]
    have hn : nodes e ≤ 60 := by have := (size_cap e 60 (by omega)).1 (by omega); omega
    have cO : ∀ (a b c d : AObj), ARun Try.prog 19 [] (H0 ++ [a, b, c, d]) (.ret (.mp (H0.length + 4)) (H0 ++ [a, b, c, d, .imap opsT])) := fun a b c d => by
      have := operations_run (H0 ++ [a, b, c, d])
      simpa using this
    have cF := fun (a b c d : AObj) => value_rs st i0 i1 i2 i3 hst e (by omega) (H0.length + 5) (H0.length + 4) (.pv (.sc (.slice none 0 0)))
      (H0 ++ [a, b, c, d, .imap opsT, .cells 59 [.pv (.sc (.slice none 0 0)), .rs 1 (rI st), .i i0, .i i1, .i i2, .i i3, .mp (H0.length + 4)]]) ⟨getOk _ _ _, getOk _ _ _⟩
    cases hv : valE st i0 i1 i2 i3 e with
    | ok v =>
      simp only [hv, outV] at cF
      simp only [vN, eN]
      (refine ARun.introD Try.func13 rfl Try.call13 Try.ntmps13 Try.results13 ?_; simp only [List.length_cons, List.length_nil, List.length_map, Nat.reduceAdd, Nat.reduceSub, List.replicate_succ, List.replicate_zero, List.cons_append, List.nil_append])
      repeat' (first | refine awpd_seq ?_ | refine awp_block ?_ | (refine awpd_defer (id := 3) ?_; simp only [AWLD, go_sem, Nat.reduceAdd, Nat.reduceSub, Nat.reduceMul, Nat.reduceLeDiff, Nat.reduceLT, Nat.reduceEqDiff, Int.reduceToNat, Int.reduceAdd, Int.reduceMul, Int.reduceSub, Int.reduceLT, Int.reduceLE, Int.reduceEq, Int.reduceNeg, Int.reduceBEq, Int.reduceBNe, ↓reduceIte, reduceCtorEq, hs]) | ((first | refine awpd_region_k fun Kn Kp hn hp => ?_ | show AWPD _ _ (Code.region 4 _ true) _ _ _ _; refine awpd_drawn_k (id := 4) [2, 4] [] [.win [0, 1], .win [0, 1], .eff 0, .win [1], .eff 1, .win [2]] 2 rfl (by as_aux_lemma => kernel_rfl) fun Kn Kp hn hp => ?_ | refine oge_intro (by assumption) ?_ | (show AWE _ _ _ _ _ _ _ _ _; first | refine awe_intro (cS _) ?_ | refine awe_intro (cO _ _ _ _) ?_ | refine awe_intro (cF _ _ _ _) ?_) | (show AWSF _ _ _ _ _ _ _ _ _ _ _; first | refine awsf_intro (cS _) (fun hrun => ?_) | refine awsf_intro (cO _ _ _ _) (fun hrun => ?_) | refine awsf_intro (cF _ _ _ _) (fun hrun => ?_)) | (show OGE _ _ _ _ _ _ _; first | refine oge_intro (cS _) ?_ | refine oge_intro (cO _ _ _ _) ?_ | refine oge_intro (cF _ _ _ _) ?_) | (show AWSE _ _ _ _ _ _ _ _ _ _ _; first | refine awse_intro (cS _) (fun hrun => ?_) | refine awse_intro (cO _ _ _ _) (fun hrun => ?_) | refine awse_intro (cF _ _ _ _) (fun hrun => ?_)) | (show PGE _ _ _ _ _; first | refine pge_intro (cS _) (fun tm' => ?_) | refine pge_intro (cO _ _ _ _) (fun tm' => ?_) | refine pge_intro (cF _ _ _ _) (fun tm' => ?_))) <;> (simp only [go_sem, Nat.reduceAdd, Nat.reduceSub, Nat.reduceMul, Nat.reduceLeDiff, Nat.reduceLT, Nat.reduceEqDiff, Int.reduceToNat, Int.reduceAdd, Int.reduceMul, Int.reduceSub, Int.reduceLT, Int.reduceLE, Int.reduceEq, Int.reduceNeg, Int.reduceBEq, Int.reduceBNe, ↓reduceIte, reduceCtorEq, hs] <;> try simp (disch := omega) only [wrap_of])) | (refine hn _ _ ?_; clear hn hp Kn Kp) | (refine hp _ _ _ ?_; clear hn hp Kn Kp) | (refine awpd_cond rfl (fun hb => ?_) (fun hb => ?_) <;> (try simp only [decide_eq_true_eq, decide_eq_false_iff_not, Bool.not_eq_true', Bool.not_eq_false', Bool.true_eq_false, Bool.false_eq_true, beq_iff_eq, bne_iff_ne, bne_eq_false_iff_eq, beq_eq_false_iff_ne, gt_iff_lt, ge_iff_le, Int.reduceEq, Int.reduceNe, Int.reduceLT, Int.reduceLE, ne_eq, not_true_eq_false, not_false_eq_true] at hb)) | ((first | refine awg_split (fun hb => ?_) (fun hb => ?_) | refine awsg_split (fun hb => ?_) (fun hb => ?_)) <;> have hb0 := hb <;> (try simp only [decide_eq_true_eq, decide_eq_false_iff_not, Bool.not_eq_true', Bool.not_eq_false', Bool.true_eq_false, Bool.false_eq_true, beq_iff_eq, bne_iff_ne, bne_eq_false_iff_eq, beq_eq_false_iff_ne, gt_iff_lt, ge_iff_le, Int.reduceEq, Int.reduceNe, Int.reduceLT, Int.reduceLE, ne_eq, not_true_eq_false, not_false_eq_true] at hb0) <;> (try simp only [beq_true, beq_false, Bool.not_eq_true', Bool.not_eq_false'] at hb) <;> (simp only [go_sem, Nat.reduceAdd, Nat.reduceSub, Nat.reduceMul, Nat.reduceLeDiff, Nat.reduceLT, Nat.reduceEqDiff, Int.reduceToNat, Int.reduceAdd, Int.reduceMul, Int.reduceSub, Int.reduceLT, Int.reduceLE, Int.reduceEq, Int.reduceNeg, Int.reduceBEq, Int.reduceBNe, ↓reduceIte, reduceCtorEq, hs, hb, hb0] <;> try simp (disch := omega) only [wrap_of])) | (refine And.intro ?_ ?_) | refine awpd_ret ?_ | refine awpd_skip ?_ | refine awloop_step ?_ | fail)
      refine ⟨_, evalD_none _ _ _, ?_⟩
      (refine resX ?_; try exact True.intro)
    | error x =>
      simp only [hv, outV] at cF
      simp only [vN, eN]
      (refine ARun.introD Try.func13 rfl Try.call13 Try.ntmps13 Try.results13 ?_; simp only [List.length_cons, List.length_nil, List.length_map, Nat.reduceAdd, Nat.reduceSub, List.replicate_succ, List.replicate_zero, List.cons_append, List.nil_append])
      repeat' (first | refine awpd_seq ?_ | refine awp_block ?_ | (refine awpd_defer (id := 3) ?_; simp only [AWLD, go_sem, Nat.reduceAdd, Nat.reduceSub, Nat.reduceMul, Nat.reduceLeDiff, Nat.reduceLT, Nat.reduceEqDiff, Int.reduceToNat, Int.reduceAdd, Int.reduceMul, Int.reduceSub, Int.reduceLT, Int.reduceLE, Int.reduceEq, Int.reduceNeg, Int.reduceBEq, Int.reduceBNe, ↓reduceIte, reduceCtorEq, hs]) | ((first | refine awpd_region_k fun Kn Kp hn hp => ?_ | show AWPD _ _ (Code.region 4 _ true) _ _ _ _; refine awpd_drawn_k (id := 4) [2, 4] [] [.win [0, 1], .win [0, 1], .eff 0, .win [1], .eff 1, .win [2]] 2 rfl (by as_aux_lemma => kernel_rfl) fun Kn Kp hn hp => ?_ | refine oge_intro (by assumption) ?_ | (show AWE _ _ _ _ _ _ _ _ _; first | refine awe_intro (cS _) ?_ | refine awe_intro (cO _ _ _ _) ?_ | refine awe_intro (cF _ _ _ _) ?_) | (show AWSF _ _ _ _ _ _ _ _ _ _ _; first | refine awsf_intro (cS _) (fun hrun => ?_) | refine awsf_intro (cO _ _ _ _) (fun hrun => ?_) | refine awsf_intro (cF _ _ _ _) (fun hrun => ?_)) | (show OGE _ _ _ _ _ _ _; first | refine oge_intro (cS _) ?_ | refine oge_intro (cO _ _ _ _) ?_ | refine oge_intro (cF _ _ _ _) ?_) | (show AWSE _ _ _ _ _ _ _ _ _ _ _; first | refine awse_intro (cS _) (fun hrun => ?_) | refine awse_intro (cO _ _ _ _) (fun hrun => ?_) | refine awse_intro (cF _ _ _ _) (fun hrun => ?_)) | (show PGE _ _ _ _ _; first | refine pge_intro (cS _) (fun tm' => ?_) | refine pge_intro (cO _ _ _ _) (fun tm' => ?_) | refine pge_intro (cF _ _ _ _) (fun tm' => ?_))) <;> (simp only [go_sem, Nat.reduceAdd, Nat.reduceSub, Nat.reduceMul, Nat.reduceLeDiff, Nat.reduceLT, Nat.reduceEqDiff, Int.reduceToNat, Int.reduceAdd, Int.reduceMul, Int.reduceSub, Int.reduceLT, Int.reduceLE, Int.reduceEq, Int.reduceNeg, Int.reduceBEq, Int.reduceBNe, ↓reduceIte, reduceCtorEq, hs] <;> try simp (disch := omega) only [wrap_of])) | (refine hn _ _ ?_; clear hn hp Kn Kp) | (refine hp _ _ _ ?_; clear hn hp Kn Kp) | (refine awpd_cond rfl (fun hb => ?_) (fun hb => ?_) <;> (try simp only [decide_eq_true_eq, decide_eq_false_iff_not, Bool.not_eq_true', Bool.not_eq_false', Bool.true_eq_false, Bool.false_eq_true, beq_iff_eq, bne_iff_ne, bne_eq_false_iff_eq, beq_eq_false_iff_ne, gt_iff_lt, ge_iff_le, Int.reduceEq, Int.reduceNe, Int.reduceLT, Int.reduceLE, ne_eq, not_true_eq_false, not_false_eq_true] at hb)) | ((first | refine awg_split (fun hb => ?_) (fun hb => ?_) | refine awsg_split (fun hb => ?_) (fun hb => ?_)) <;> have hb0 := hb <;> (try simp only [decide_eq_true_eq, decide_eq_false_iff_not, Bool.not_eq_true', Bool.not_eq_false', Bool.true_eq_false, Bool.false_eq_true, beq_iff_eq, bne_iff_ne, bne_eq_false_iff_eq, beq_eq_false_iff_ne, gt_iff_lt, ge_iff_le, Int.reduceEq, Int.reduceNe, Int.reduceLT, Int.reduceLE, ne_eq, not_true_eq_false, not_false_eq_true] at hb0) <;> (try simp only [beq_true, beq_false, Bool.not_eq_true', Bool.not_eq_false'] at hb) <;> (simp only [go_sem, Nat.reduceAdd, Nat.reduceSub, Nat.reduceMul, Nat.reduceLeDiff, Nat.reduceLT, Nat.reduceEqDiff, Int.reduceToNat, Int.reduceAdd, Int.reduceMul, Int.reduceSub, Int.reduceLT, Int.reduceLE, Int.reduceEq, Int.reduceNeg, Int.reduceBEq, Int.reduceBNe, ↓reduceIte, reduceCtorEq, hs, hb, hb0] <;> try simp (disch := omega) only [wrap_of])) | (refine And.intro ?_ ?_) | refine awpd_ret ?_ | refine awpd_skip ?_ | refine awloop_step ?_ | fail)
      refine ⟨_, evalD_pan _ _ (by omega) _ x 0 0 (by rw [getOk]; rfl) (by rw [getOk]; rfl), ?_⟩
      (refine resX ?_; try exact True.intro)
theorem dr15_6_X30k : Drawn Try.prog 6 (regOps 6 ((Try.f15.body).getD .skip)) [] [] [.win [0], .win [0], .win [0], .win [0], .win [0], .win [0], .win [0], .win [0], .win [0], .win [0], .win [0], .win [0], .win [0], .win [0], .win [0], .win [0]] 0 [] := ⟨rfl, by as_aux_lemma => kernel_rfl⟩
theorem dr15_10_X30k : Drawn Try.prog 10 (regOps 10 ((Try.f15.body).getD .skip)) [2, 4, 7, 9] [] [.win [0, 1, 2, 3], .win [0, 1, 2, 3], .eff 0, .win [0, 1], .eff 1, .win [0, 1, 2, 3], .win [0, 1, 2, 3], .eff 2, .win [3], .eff 3, .win [4]] 4 [] := ⟨rfl, by as_aux_lemma => kernel_rfl⟩
theorem runD_none (a b : Nat) (H : List AObj) : ARunD Try.prog 25 [.p a 0, .p b 0] H none H := by
  refine ARunD.intro Try.func25 rfl Try.call25 Try.ntmps25 Try.results25 ?_
  simp only [List.length_cons, List.length_nil, Nat.reduceAdd, Nat.reduceSub, List.replicate_succ, List.replicate_zero, List.cons_append, List.nil_append, UM.of]
  refine awps_seq ?_
  refine awps_region ?_
  simp only [AWLS, isRecover, if_true, Bool.false_eq_true, if_false, aput, aStep, aev, List.set_cons_zero, List.set_cons_succ, List.getElem?_cons_zero, List.getElem?_cons_succ, Option.getD_some, AV.ofV, aEqStep, aEq, AV.sc]
  refine awps_seq ?_
  refine awps_region ?_
  simp only [AWLS, isRecover, if_true, Bool.false_eq_true, if_false, aput, aStep, aev, List.set_cons_zero, List.set_cons_succ, List.getElem?_cons_zero, List.getElem?_cons_succ, Option.getD_some, AV.ofV, aEqStep, aEq, AV.sc]
  refine ⟨rfl, .bool false, fun w => ?_, ?_⟩
  · simp [execOp, aRho, aev, AV.conc, eqGuard, binOp, Op.equal, Op.maxDepth, AV.ofV, AV.sc, run_equalIn_nil_nil w 9999 20 undAnyM]
  · refine awps_cond rfl (fun hb => by cases hb) (fun _ => ?_)
    refine awps_skip ?_
    refine ⟨⟨_, rfl⟩, ⟨H.length, ⟨Nat.le_refl _, Nat.le_refl _, fun id o hid ho => .inl ho⟩, by simp⟩, trivial⟩
theorem runD_pan (a b : Nat) (hab : a ≠ b) (H : List AObj) (e : Int) (x : AV) (y : Int) (ha : H[a]? = some (.cells 27 [x])) (hb : H[b]? = some (.cells 23 [.i y])) :
    ARunD Try.prog 25 [.p a 0, .p b 0] H (some (xF e)) ((H.set a (.cells 27 [.pv (.sc (.slice none 0 0))])).set b (.cells 23 [.i e])) := by
  refine ARunD.intro Try.func25 rfl Try.call25 Try.ntmps25 Try.results25 ?_
  simp only [List.length_cons, List.length_nil, Nat.reduceAdd, Nat.reduceSub, List.replicate_succ, List.replicate_zero, List.cons_append, List.nil_append, UM.of]
  refine awps_seq ?_
  refine awps_region ?_
  simp only [AWLS, isRecover, if_true, Bool.false_eq_true, if_false, aput, aStep, aev, List.set_cons_zero, List.set_cons_succ, List.getElem?_cons_zero, List.getElem?_cons_succ, Option.getD_some, AV.ofV, aEqStep, aEq, AV.sc]
  refine awps_seq ?_
  refine awps_region ?_
  simp only [AWLS, isRecover, if_true, Bool.false_eq_true, if_false, aput, aStep, aev, List.set_cons_zero, List.set_cons_succ, List.getElem?_cons_zero, List.getElem?_cons_succ, Option.getD_some, AV.ofV, aEqStep, aEq, AV.sc]
  refine ⟨rfl, .bool true, fun w => ?_, ?_⟩
  · simp [execOp, aRho, aev, AV.conc, eqGuard, binOp, Op.equal, Op.maxDepth, AV.ofV, AV.sc, run_equalIn_held_nil w 9999 20 68 _ undAnyM]
  · refine awps_cond rfl (fun _ => ?_) (fun hb => by cases hb)
    refine awps_region ?_
    simp only [AWLS, isRecover, if_true, Bool.false_eq_true, if_false, aput, aStep, aev, List.set_cons_zero, List.set_cons_succ, List.getElem?_cons_zero, List.getElem?_cons_succ, Option.getD_some, AV.ofV, aEqStep, aEq, AV.sc]
    refine ⟨.i e, H, caughtM_run e H, ?_⟩
    have hb2 : (H.set a (.cells 27 [.pv (.sc (.slice none 0 0))]))[b]? = some (.cells 23 [.i y]) := by rw [List.getElem?_set_ne hab]; exact hb
    simp only [go_sem, Nat.reduceAdd, Nat.reduceSub, Nat.reduceMul, Nat.reduceLeDiff, Nat.reduceLT, Nat.reduceEqDiff, Int.reduceToNat, Int.reduceAdd, Int.reduceMul, Int.reduceSub, Int.reduceLT, Int.reduceLE, Int.reduceEq, Int.reduceNeg, Int.reduceBEq, Int.reduceBNe, ↓reduceIte, reduceCtorEq, ha, hb2]
    refine ⟨⟨_, rfl⟩, ⟨H.length, ⟨Nat.le_refl _, by simp, fun id o hid ho => ?_⟩, by rw [List.take_of_length_le (by simp)]⟩, trivial⟩
    by_cases h1 : b = id
    · subst h1
      rw [List.getElem?_set_self (by rw [List.length_set]; exact (List.getElem?_eq_some_iff.1 hb).1)] at ho
      simp only [Option.some.injEq] at ho
      subst ho
      exact .inr (by simp [AObj.under, AV.under])
    · rw [List.getElem?_set_ne h1] at ho
      by_cases h2 : a = id
      · subst h2
        rw [List.getElem?_set_self (List.getElem?_eq_some_iff.1 ha).1] at ho
        simp only [Option.some.injEq] at ho
        subst ho
        exact .inr (by simp [AObj.under, AV.under])
      · rw [List.getElem?_set_ne h2] at ho
        exact .inl ho
/-- What Run comes to. -/
def runM (p : Prg) (st : List Int) (x : Cal) : Except Int (List Int) := if callOk x = true ∧ stIn p.vars st = true ∧ validB p = true then runStL p.vars x.i0 x.i1 x.i2 x.i3 (handP p x.ev.toNat) st else .error 1
theorem MRun_bad (p : Prg) (hl : p.vars.length ≤ 1000000) (hok : okP p) (hz : p.name.size ≤ 2000000) (hzv : ∀ v ∈ p.vars, v.name.size ≤ 2000000) (st : List Int) (x : Cal)
    (hb : ¬ (callOk x = true ∧ st.length = p.vars.length ∧ validB p = true)) (H0 : List AObj) :
    ARun Try.prog 15 [.ag (cP p), .rs 1 (rI st), agL x] H0 (.ret (.tup [.rs 1 [], .i 1]) H0) := by
  have cW := fun H => CValid_run p hl hok hz hzv H
  have cC := fun H => MCall_run x H
  have ls : (rI st).length = st.length := List.length_map _
  cases hc : callOk x with
  | false =>
    rw [hc] at cC
    (refine ARun.introD Try.func15 rfl Try.call15 Try.ntmps15 Try.results15 ?_; simp only [List.length_cons, List.length_nil, List.length_map, Nat.reduceAdd, Nat.reduceSub, List.replicate_succ, List.replicate_zero, List.cons_append, List.nil_append])
    repeat' (first | refine awpd_seq ?_ | refine awp_block ?_ | (refine awpd_defer (id := 9) ?_; simp only [AWLD, go_sem, Nat.reduceAdd, Nat.reduceSub, Nat.reduceMul, Nat.reduceLeDiff, Nat.reduceLT, Nat.reduceEqDiff, Int.reduceToNat, Int.reduceAdd, Int.reduceMul, Int.reduceSub, Int.reduceLT, Int.reduceLE, Int.reduceEq, Int.reduceNeg, Int.reduceBEq, Int.reduceBNe, ↓reduceIte, reduceCtorEq]) | ((first | refine awpd_region_k fun Kn Kp hn hp => ?_ | show AWPD _ _ (Code.region 6 _ true) _ _ _ _; refine awpd_drawn_k (id := 6) [] [] [.win [0], .win [0], .win [0], .win [0], .win [0], .win [0], .win [0], .win [0], .win [0], .win [0], .win [0], .win [0], .win [0], .win [0], .win [0], .win [0]] 0 rfl (by as_aux_lemma => kernel_rfl) fun Kn Kp hn hp => ?_ | show AWPD _ _ (Code.region 10 _ true) _ _ _ _; refine awpd_drawn_k (id := 10) [2, 4, 7, 9] [] [.win [0, 1, 2, 3], .win [0, 1, 2, 3], .eff 0, .win [0, 1], .eff 1, .win [0, 1, 2, 3], .win [0, 1, 2, 3], .eff 2, .win [3], .eff 3, .win [4]] 4 rfl (by as_aux_lemma => kernel_rfl) fun Kn Kp hn hp => ?_ | refine oge_intro (by assumption) ?_ | (show AWE _ _ _ _ _ _ _ _ _; first | refine awe_intro (cC _) ?_) | (show AWSF _ _ _ _ _ _ _ _ _ _ _; first | refine awsf_intro (cC _) (fun hrun => ?_)) | (show OGE _ _ _ _ _ _ _; first | refine oge_intro (cC _) ?_) | (show AWSE _ _ _ _ _ _ _ _ _ _ _; first | refine awse_intro (cC _) (fun hrun => ?_)) | (show PGE _ _ _ _ _; first | refine pge_intro (cC _) (fun tm' => ?_))) <;> (simp only [go_sem, Nat.reduceAdd, Nat.reduceSub, Nat.reduceMul, Nat.reduceLeDiff, Nat.reduceLT, Nat.reduceEqDiff, Int.reduceToNat, Int.reduceAdd, Int.reduceMul, Int.reduceSub, Int.reduceLT, Int.reduceLE, Int.reduceEq, Int.reduceNeg, Int.reduceBEq, Int.reduceBNe, ↓reduceIte, reduceCtorEq] <;> try simp (disch := omega) only [wrap_of])) | (refine hn _ _ ?_; clear hn hp Kn Kp) | (refine hp _ _ _ ?_; clear hn hp Kn Kp) | (refine awpd_cond rfl (fun hb => ?_) (fun hb => ?_) <;> (try simp only [decide_eq_true_eq, decide_eq_false_iff_not, Bool.not_eq_true', Bool.not_eq_false', Bool.true_eq_false, Bool.false_eq_true, beq_iff_eq, bne_iff_ne, bne_eq_false_iff_eq, beq_eq_false_iff_ne, gt_iff_lt, ge_iff_le, Int.reduceEq, Int.reduceNe, Int.reduceLT, Int.reduceLE, ne_eq, not_true_eq_false, not_false_eq_true] at hb)) | ((first | refine awg_split (fun hb => ?_) (fun hb => ?_) | refine awsg_split (fun hb => ?_) (fun hb => ?_)) <;> have hb0 := hb <;> (try simp only [decide_eq_true_eq, decide_eq_false_iff_not, Bool.not_eq_true', Bool.not_eq_false', Bool.true_eq_false, Bool.false_eq_true, beq_iff_eq, bne_iff_ne, bne_eq_false_iff_eq, beq_eq_false_iff_ne, gt_iff_lt, ge_iff_le, Int.reduceEq, Int.reduceNe, Int.reduceLT, Int.reduceLE, ne_eq, not_true_eq_false, not_false_eq_true] at hb0) <;> (try simp only [beq_true, beq_false, Bool.not_eq_true', Bool.not_eq_false'] at hb) <;> (simp only [go_sem, Nat.reduceAdd, Nat.reduceSub, Nat.reduceMul, Nat.reduceLeDiff, Nat.reduceLT, Nat.reduceEqDiff, Int.reduceToNat, Int.reduceAdd, Int.reduceMul, Int.reduceSub, Int.reduceLT, Int.reduceLE, Int.reduceEq, Int.reduceNeg, Int.reduceBEq, Int.reduceBNe, ↓reduceIte, reduceCtorEq, hb, hb0] <;> try simp (disch := omega) only [wrap_of])) | (refine And.intro ?_ ?_) | refine awpd_ret ?_ | refine awpd_skip ?_ | refine awloop_step ?_ | fail)
    (refine resC ?_; (repeat' (first | exact True.intro | refine Lf.mk ?_ ?_)))
    (repeat' (first | exact trivial | exact Cv.refl _ | exact Cv.nil (Nat.succ_pos _) | exact PCv.refl _ | exact PCv.nil (Nat.succ_pos _) | refine And.intro ?_ ?_ | refine Cv.agg ?_ | refine Cv.tup ?_ | refine Cv.pv (PCv.rs ?_) | refine PCv.rs ?_))
  | true =>
    rw [hc] at cC
    by_cases hs : st.length = p.vars.length
    · have hv : validB p = false := by cases h : validB p with
        | false => rfl
        | true => exact absurd ⟨hc, hs, h⟩ hb
      rw [hv] at cW
      have hs' : ((st.length : Int) != (p.vars.length : Int)) = false := by rw [hs]; simp
      (refine ARun.introD Try.func15 rfl Try.call15 Try.ntmps15 Try.results15 ?_; simp only [List.length_cons, List.length_nil, List.length_map, Nat.reduceAdd, Nat.reduceSub, List.replicate_succ, List.replicate_zero, List.cons_append, List.nil_append])
      repeat' (first | refine awpd_seq ?_ | refine awp_block ?_ | (refine awpd_defer (id := 9) ?_; simp only [AWLD, go_sem, Nat.reduceAdd, Nat.reduceSub, Nat.reduceMul, Nat.reduceLeDiff, Nat.reduceLT, Nat.reduceEqDiff, Int.reduceToNat, Int.reduceAdd, Int.reduceMul, Int.reduceSub, Int.reduceLT, Int.reduceLE, Int.reduceEq, Int.reduceNeg, Int.reduceBEq, Int.reduceBNe, ↓reduceIte, reduceCtorEq, ls, List.length_map, hs']) | ((first | refine awpd_region_k fun Kn Kp hn hp => ?_ | show AWPD _ _ (Code.region 6 _ true) _ _ _ _; refine awpd_drawn_k (id := 6) [] [] [.win [0], .win [0], .win [0], .win [0], .win [0], .win [0], .win [0], .win [0], .win [0], .win [0], .win [0], .win [0], .win [0], .win [0], .win [0], .win [0]] 0 rfl (by as_aux_lemma => kernel_rfl) fun Kn Kp hn hp => ?_ | show AWPD _ _ (Code.region 10 _ true) _ _ _ _; refine awpd_drawn_k (id := 10) [2, 4, 7, 9] [] [.win [0, 1, 2, 3], .win [0, 1, 2, 3], .eff 0, .win [0, 1], .eff 1, .win [0, 1, 2, 3], .win [0, 1, 2, 3], .eff 2, .win [3], .eff 3, .win [4]] 4 rfl (by as_aux_lemma => kernel_rfl) fun Kn Kp hn hp => ?_ | refine oge_intro (by assumption) ?_ | (show AWE _ _ _ _ _ _ _ _ _; first | refine awe_intro (cC _) ?_ | refine awe_intro (cW _) ?_) | (show AWSF _ _ _ _ _ _ _ _ _ _ _; first | refine awsf_intro (cC _) (fun hrun => ?_) | refine awsf_intro (cW _) (fun hrun => ?_)) | (show OGE _ _ _ _ _ _ _; first | refine oge_intro (cC _) ?_ | refine oge_intro (cW _) ?_) | (show AWSE _ _ _ _ _ _ _ _ _ _ _; first | refine awse_intro (cC _) (fun hrun => ?_) | refine awse_intro (cW _) (fun hrun => ?_)) | (show PGE _ _ _ _ _; first | refine pge_intro (cC _) (fun tm' => ?_) | refine pge_intro (cW _) (fun tm' => ?_))) <;> (simp only [go_sem, Nat.reduceAdd, Nat.reduceSub, Nat.reduceMul, Nat.reduceLeDiff, Nat.reduceLT, Nat.reduceEqDiff, Int.reduceToNat, Int.reduceAdd, Int.reduceMul, Int.reduceSub, Int.reduceLT, Int.reduceLE, Int.reduceEq, Int.reduceNeg, Int.reduceBEq, Int.reduceBNe, ↓reduceIte, reduceCtorEq, ls, List.length_map, hs'] <;> try simp (disch := omega) only [wrap_of])) | (refine hn _ _ ?_; clear hn hp Kn Kp) | (refine hp _ _ _ ?_; clear hn hp Kn Kp) | (refine awpd_cond rfl (fun hb => ?_) (fun hb => ?_) <;> (try simp only [decide_eq_true_eq, decide_eq_false_iff_not, Bool.not_eq_true', Bool.not_eq_false', Bool.true_eq_false, Bool.false_eq_true, beq_iff_eq, bne_iff_ne, bne_eq_false_iff_eq, beq_eq_false_iff_ne, gt_iff_lt, ge_iff_le, Int.reduceEq, Int.reduceNe, Int.reduceLT, Int.reduceLE, ne_eq, not_true_eq_false, not_false_eq_true] at hb)) | ((first | refine awg_split (fun hb => ?_) (fun hb => ?_) | refine awsg_split (fun hb => ?_) (fun hb => ?_)) <;> have hb0 := hb <;> (try simp only [decide_eq_true_eq, decide_eq_false_iff_not, Bool.not_eq_true', Bool.not_eq_false', Bool.true_eq_false, Bool.false_eq_true, beq_iff_eq, bne_iff_ne, bne_eq_false_iff_eq, beq_eq_false_iff_ne, gt_iff_lt, ge_iff_le, Int.reduceEq, Int.reduceNe, Int.reduceLT, Int.reduceLE, ne_eq, not_true_eq_false, not_false_eq_true] at hb0) <;> (try simp only [beq_true, beq_false, Bool.not_eq_true', Bool.not_eq_false'] at hb) <;> (simp only [go_sem, Nat.reduceAdd, Nat.reduceSub, Nat.reduceMul, Nat.reduceLeDiff, Nat.reduceLT, Nat.reduceEqDiff, Int.reduceToNat, Int.reduceAdd, Int.reduceMul, Int.reduceSub, Int.reduceLT, Int.reduceLE, Int.reduceEq, Int.reduceNeg, Int.reduceBEq, Int.reduceBNe, ↓reduceIte, reduceCtorEq, ls, List.length_map, hs', hb, hb0] <;> try simp (disch := omega) only [wrap_of])) | (refine And.intro ?_ ?_) | refine awpd_ret ?_ | refine awpd_skip ?_ | refine awloop_step ?_ | fail)
      (refine resC ?_; (repeat' (first | exact True.intro | refine Lf.mk ?_ ?_)))
      (repeat' (first | exact trivial | exact Cv.refl _ | exact Cv.nil (Nat.succ_pos _) | exact PCv.refl _ | exact PCv.nil (Nat.succ_pos _) | refine And.intro ?_ ?_ | refine Cv.agg ?_ | refine Cv.tup ?_ | refine Cv.pv (PCv.rs ?_) | refine PCv.rs ?_))
    · have hs' : ((st.length : Int) != (p.vars.length : Int)) = true := by simp; omega
      (refine ARun.introD Try.func15 rfl Try.call15 Try.ntmps15 Try.results15 ?_; simp only [List.length_cons, List.length_nil, List.length_map, Nat.reduceAdd, Nat.reduceSub, List.replicate_succ, List.replicate_zero, List.cons_append, List.nil_append])
      repeat' (first | refine awpd_seq ?_ | refine awp_block ?_ | (refine awpd_defer (id := 9) ?_; simp only [AWLD, go_sem, Nat.reduceAdd, Nat.reduceSub, Nat.reduceMul, Nat.reduceLeDiff, Nat.reduceLT, Nat.reduceEqDiff, Int.reduceToNat, Int.reduceAdd, Int.reduceMul, Int.reduceSub, Int.reduceLT, Int.reduceLE, Int.reduceEq, Int.reduceNeg, Int.reduceBEq, Int.reduceBNe, ↓reduceIte, reduceCtorEq, ls, List.length_map, hs']) | ((first | refine awpd_region_k fun Kn Kp hn hp => ?_ | show AWPD _ _ (Code.region 6 _ true) _ _ _ _; refine awpd_drawn_k (id := 6) [] [] [.win [0], .win [0], .win [0], .win [0], .win [0], .win [0], .win [0], .win [0], .win [0], .win [0], .win [0], .win [0], .win [0], .win [0], .win [0], .win [0]] 0 rfl (by as_aux_lemma => kernel_rfl) fun Kn Kp hn hp => ?_ | show AWPD _ _ (Code.region 10 _ true) _ _ _ _; refine awpd_drawn_k (id := 10) [2, 4, 7, 9] [] [.win [0, 1, 2, 3], .win [0, 1, 2, 3], .eff 0, .win [0, 1], .eff 1, .win [0, 1, 2, 3], .win [0, 1, 2, 3], .eff 2, .win [3], .eff 3, .win [4]] 4 rfl (by as_aux_lemma => kernel_rfl) fun Kn Kp hn hp => ?_ | refine oge_intro (by assumption) ?_ | (show AWE _ _ _ _ _ _ _ _ _; first | refine awe_intro (cC _) ?_) | (show AWSF _ _ _ _ _ _ _ _ _ _ _; first | refine awsf_intro (cC _) (fun hrun => ?_)) | (show OGE _ _ _ _ _ _ _; first | refine oge_intro (cC _) ?_) | (show AWSE _ _ _ _ _ _ _ _ _ _ _; first | refine awse_intro (cC _) (fun hrun => ?_)) | (show PGE _ _ _ _ _; first | refine pge_intro (cC _) (fun tm' => ?_))) <;> (simp only [go_sem, Nat.reduceAdd, Nat.reduceSub, Nat.reduceMul, Nat.reduceLeDiff, Nat.reduceLT, Nat.reduceEqDiff, Int.reduceToNat, Int.reduceAdd, Int.reduceMul, Int.reduceSub, Int.reduceLT, Int.reduceLE, Int.reduceEq, Int.reduceNeg, Int.reduceBEq, Int.reduceBNe, ↓reduceIte, reduceCtorEq, ls, List.length_map, hs'] <;> try simp (disch := omega) only [wrap_of])) | (refine hn _ _ ?_; clear hn hp Kn Kp) | (refine hp _ _ _ ?_; clear hn hp Kn Kp) | (refine awpd_cond rfl (fun hb => ?_) (fun hb => ?_) <;> (try simp only [decide_eq_true_eq, decide_eq_false_iff_not, Bool.not_eq_true', Bool.not_eq_false', Bool.true_eq_false, Bool.false_eq_true, beq_iff_eq, bne_iff_ne, bne_eq_false_iff_eq, beq_eq_false_iff_ne, gt_iff_lt, ge_iff_le, Int.reduceEq, Int.reduceNe, Int.reduceLT, Int.reduceLE, ne_eq, not_true_eq_false, not_false_eq_true] at hb)) | ((first | refine awg_split (fun hb => ?_) (fun hb => ?_) | refine awsg_split (fun hb => ?_) (fun hb => ?_)) <;> have hb0 := hb <;> (try simp only [decide_eq_true_eq, decide_eq_false_iff_not, Bool.not_eq_true', Bool.not_eq_false', Bool.true_eq_false, Bool.false_eq_true, beq_iff_eq, bne_iff_ne, bne_eq_false_iff_eq, beq_eq_false_iff_ne, gt_iff_lt, ge_iff_le, Int.reduceEq, Int.reduceNe, Int.reduceLT, Int.reduceLE, ne_eq, not_true_eq_false, not_false_eq_true] at hb0) <;> (try simp only [beq_true, beq_false, Bool.not_eq_true', Bool.not_eq_false'] at hb) <;> (simp only [go_sem, Nat.reduceAdd, Nat.reduceSub, Nat.reduceMul, Nat.reduceLeDiff, Nat.reduceLT, Nat.reduceEqDiff, Int.reduceToNat, Int.reduceAdd, Int.reduceMul, Int.reduceSub, Int.reduceLT, Int.reduceLE, Int.reduceEq, Int.reduceNeg, Int.reduceBEq, Int.reduceBNe, ↓reduceIte, reduceCtorEq, ls, List.length_map, hs', hb, hb0] <;> try simp (disch := omega) only [wrap_of])) | (refine And.intro ?_ ?_) | refine awpd_ret ?_ | refine awpd_skip ?_ | refine awloop_step ?_ | fail)
      (refine resC ?_; (repeat' (first | exact True.intro | refine Lf.mk ?_ ?_)))
      (repeat' (first | exact trivial | exact Cv.refl _ | exact Cv.nil (Nat.succ_pos _) | exact PCv.refl _ | exact PCv.nil (Nat.succ_pos _) | refine And.intro ?_ ?_ | refine Cv.agg ?_ | refine Cv.tup ?_ | refine Cv.pv (PCv.rs ?_) | refine PCv.rs ?_))
theorem hand_fine {p : Prg} (h : okP p) (k : Nat) : fineL (handP p k) := by
  unfold okP at h
  unfold handP
  repeat' split
  · exact h.1.2
  · exact h.2.1.2
  · exact h.2.2.1.2
  · exact h.2.2.2.1.2
  · exact h.2.2.2.2.2
theorem hand_tot (p : Prg) (k : Nat) (h : totL p.on0 ≤ 1000000000 ∧ totL p.on1 ≤ 1000000000 ∧ totL p.on2 ≤ 1000000000 ∧ totL p.on3 ≤ 1000000000 ∧ totL p.on4 ≤ 1000000000) : totL (handP p k) ≤ 1000000000 := by
  unfold handP
  repeat' split
  · exact h.1
  · exact h.2.1
  · exact h.2.2.1
  · exact h.2.2.2.1
  · exact h.2.2.2.2
theorem MRun_good (p : Prg) (hl : p.vars.length ≤ 1000000) (hok : okP p) (hz : p.name.size ≤ 2000000) (hzv : ∀ v ∈ p.vars, v.name.size ≤ 2000000) (st : List Int) (x : Cal)
    (hT : totL p.on0 ≤ 1000000000 ∧ totL p.on1 ≤ 1000000000 ∧ totL p.on2 ≤ 1000000000 ∧ totL p.on3 ≤ 1000000000 ∧ totL p.on4 ≤ 1000000000)
    (hc : callOk x = true) (hs : st.length = p.vars.length) (hv : validB p = true) (H0 : List AObj) :
    ARun Try.prog 15 [.ag (cP p), .rs 1 (rI st), agL x] H0 (.ret (.tup [.rs 1 (rI (runL (runM p st x))), .i (runE (runM p st x))]) H0) := by
  have cW := fun H => CValid_run p hl hok hz hzv H
  have cC := fun H => MCall_run x H
  rw [hv] at cW
  rw [hc] at cC
  have hs' : ((st.length : Int) != (p.vars.length : Int)) = false := by rw [hs]; simp
  have ls : (rI st).length = st.length := List.length_map _
  (refine ARun.introD Try.func15 rfl Try.call15 Try.ntmps15 Try.results15 ?_; simp only [List.length_cons, List.length_nil, List.length_map, Nat.reduceAdd, Nat.reduceSub, List.replicate_succ, List.replicate_zero, List.cons_append, List.nil_append])
  repeat' (first | refine awpd_seq ?_ | refine awp_block ?_ | (refine awpd_defer (id := 9) ?_; simp only [AWLD, go_sem, Nat.reduceAdd, Nat.reduceSub, Nat.reduceMul, Nat.reduceLeDiff, Nat.reduceLT, Nat.reduceEqDiff, Int.reduceToNat, Int.reduceAdd, Int.reduceMul, Int.reduceSub, Int.reduceLT, Int.reduceLE, Int.reduceEq, Int.reduceNeg, Int.reduceBEq, Int.reduceBNe, ↓reduceIte, reduceCtorEq, ls, List.length_map, hs']) | ((first | refine awpd_region_k fun Kn Kp hn hp => ?_ | show AWPD _ _ (Code.region 6 _ true) _ _ _ _; refine awpd_drawn_k (id := 6) [] [] [.win [0], .win [0], .win [0], .win [0], .win [0], .win [0], .win [0], .win [0], .win [0], .win [0], .win [0], .win [0], .win [0], .win [0], .win [0], .win [0]] 0 rfl (by as_aux_lemma => kernel_rfl) fun Kn Kp hn hp => ?_ | show AWPD _ _ (Code.region 10 _ true) _ _ _ _; refine awpd_drawn_k (id := 10) [2, 4, 7, 9] [] [.win [0, 1, 2, 3], .win [0, 1, 2, 3], .eff 0, .win [0, 1], .eff 1, .win [0, 1, 2, 3], .win [0, 1, 2, 3], .eff 2, .win [3], .eff 3, .win [4]] 4 rfl (by as_aux_lemma => kernel_rfl) fun Kn Kp hn hp => ?_ | refine oge_intro (by assumption) ?_ | (show AWE _ _ _ _ _ _ _ _ _; first | refine awe_intro (cC _) ?_ | refine awe_intro (cW _) ?_) | (show AWSF _ _ _ _ _ _ _ _ _ _ _; first | refine awsf_intro (cC _) (fun hrun => ?_) | refine awsf_intro (cW _) (fun hrun => ?_)) | (show OGE _ _ _ _ _ _ _; first | refine oge_intro (cC _) ?_ | refine oge_intro (cW _) ?_) | (show AWSE _ _ _ _ _ _ _ _ _ _ _; first | refine awse_intro (cC _) (fun hrun => ?_) | refine awse_intro (cW _) (fun hrun => ?_)) | (show PGE _ _ _ _ _; first | refine pge_intro (cC _) (fun tm' => ?_) | refine pge_intro (cW _) (fun tm' => ?_))) <;> (simp only [go_sem, Nat.reduceAdd, Nat.reduceSub, Nat.reduceMul, Nat.reduceLeDiff, Nat.reduceLT, Nat.reduceEqDiff, Int.reduceToNat, Int.reduceAdd, Int.reduceMul, Int.reduceSub, Int.reduceLT, Int.reduceLE, Int.reduceEq, Int.reduceNeg, Int.reduceBEq, Int.reduceBNe, ↓reduceIte, reduceCtorEq, ls, List.length_map, hs'] <;> try simp (disch := omega) only [wrap_of])) | (refine hn _ _ ?_; clear hn hp Kn Kp) | (refine hp _ _ _ ?_; clear hn hp Kn Kp) | (refine awpd_cond rfl (fun hb => ?_) (fun hb => ?_) <;> (try simp only [decide_eq_true_eq, decide_eq_false_iff_not, Bool.not_eq_true', Bool.not_eq_false', Bool.true_eq_false, Bool.false_eq_true, beq_iff_eq, bne_iff_ne, bne_eq_false_iff_eq, beq_eq_false_iff_ne, gt_iff_lt, ge_iff_le, Int.reduceEq, Int.reduceNe, Int.reduceLT, Int.reduceLE, ne_eq, not_true_eq_false, not_false_eq_true] at hb)) | ((first | refine awg_split (fun hb => ?_) (fun hb => ?_) | refine awsg_split (fun hb => ?_) (fun hb => ?_)) <;> have hb0 := hb <;> (try simp only [decide_eq_true_eq, decide_eq_false_iff_not, Bool.not_eq_true', Bool.not_eq_false', Bool.true_eq_false, Bool.false_eq_true, beq_iff_eq, bne_iff_ne, bne_eq_false_iff_eq, beq_eq_false_iff_ne, gt_iff_lt, ge_iff_le, Int.reduceEq, Int.reduceNe, Int.reduceLT, Int.reduceLE, ne_eq, not_true_eq_false, not_false_eq_true] at hb0) <;> (try simp only [beq_true, beq_false, Bool.not_eq_true', Bool.not_eq_false'] at hb) <;> (simp only [go_sem, Nat.reduceAdd, Nat.reduceSub, Nat.reduceMul, Nat.reduceLeDiff, Nat.reduceLT, Nat.reduceEqDiff, Int.reduceToNat, Int.reduceAdd, Int.reduceMul, Int.reduceSub, Int.reduceLT, Int.reduceLE, Int.reduceEq, Int.reduceNeg, Int.reduceBEq, Int.reduceBNe, ↓reduceIte, reduceCtorEq, ls, List.length_map, hs', hb, hb0] <;> try simp (disch := omega) only [wrap_of])) | (refine And.intro ?_ ?_) | refine awpd_ret ?_ | refine awpd_skip ?_ | refine awloop_step ?_ | fail)
  refine awpd_off ?_
  (have rr1 := dr15_6_X30k; have rr2 := dr15_10_X30k; have ww1 := ls; refine wk ?_; clear rr1 rr2 ww1; (repeat' first | exact True.intro | refine Lf.mk ?_ ?_); all_goals intro hP)
  refine awp_loop_ind (σ := Nat) (fun k => p.vars.length - k) (fun k => k ≤ p.vars.length ∧ stIn p.vars st = stIn (p.vars.drop k) (st.drop k))
    (fun k => (.any :: .rs 1 (rI st) :: .any :: .p H0.length 0 :: .any :: .p (H0.length + 1) 0 :: .p (H0.length + 2) 0 :: .p (H0.length + 3) 0 :: .any :: .any :: .any :: .any :: .any :: .any :: .any :: .any :: .any :: .any :: .any :: .any :: .any :: .any :: .any :: .any :: .any :: .any :: .any :: .any :: .rs 5 (p.vars.map encV) :: .i p.vars.length :: .i k :: .any :: .any :: .any :: .any :: .any :: .any :: .any :: .any :: .any :: .any :: .any :: .any :: .any :: .any :: .any :: .any :: .any :: .any :: .any :: .any :: .any :: .any :: .any :: .any :: .any :: .any :: .any :: .any :: .any :: .any :: .any :: .any :: .any :: .any :: .any :: .any :: .any :: .any :: .any :: .any :: .any :: .any :: .any :: []))
    (fun k => H0 ++ [.cells 34 ((cP p).map AV.pv), .cells 52 [.i x.ev, .i x.i0, .i x.i1, .i x.i2, .i x.i3], .cells 27 [.pv (.sc (.slice none 0 0))], .cells 23 [.i 0]]) 0 ⟨Nat.zero_le _, rfl⟩ (by (refine fgtX ?_; try exact True.intro)) ?_
  rintro k ⟨k1, k2⟩
  have hw : IntKind.i64.wrap ((k : Int) + 1) = ((k + 1 : Nat) : Int) := by rw [wrap_of (by omega) (by omega)]; omega
  cases hr : p.vars.drop k with
  | nil =>
    have hlt := drop_nil hr
    have hk : p.vars.length ≤ k := List.drop_eq_nil_iff.1 hr
    have hst : stIn p.vars st = true := by rw [k2, hr, List.drop_eq_nil_iff.2 (by omega)]; rfl
    have hM : runM p st x = runStL p.vars x.i0 x.i1 x.i2 x.i3 (handP p x.ev.toNat) st := by unfold runM; rw [if_pos ⟨hc, hst, hv⟩]
    rw [hM]
    (have rr1 := dr15_6_X30k; have rr2 := dr15_10_X30k; have ww1 := hlt; refine wk ?_; clear rr1 rr2 ww1; (repeat' first | exact True.intro | refine Lf.mk ?_ ?_); all_goals intro hP)
    simp only [go_sem, Nat.reduceAdd, Nat.reduceSub, Nat.reduceMul, Nat.reduceLeDiff, Nat.reduceLT, Nat.reduceEqDiff, Int.reduceToNat, Int.reduceAdd, Int.reduceMul, Int.reduceSub, Int.reduceLT, Int.reduceLE, Int.reduceEq, Int.reduceNeg, Int.reduceBEq, Int.reduceBNe, ↓reduceIte, reduceCtorEq]
    have f1 : st.length * 8 ≤ 140737488355328 := by omega
    have f2 : st.length ≤ 9223372036854775807 := by omega
    have q1 : (rI st).map (fun r => r.map AV.pv) = nR st := rfl
    have q2 := nR_len st
    have cO : ∀ (a b c d e : AObj), ARun Try.prog 19 [] (H0 ++ [a, b, c, d, e]) (.ret (.mp (H0.length + 5)) (H0 ++ [a, b, c, d, e, .imap opsT])) := fun a b c d e => by
      have := operations_run (H0 ++ [a, b, c, d, e])
      simpa using this
    obtain ⟨us, V⟩ := validB_val hv
    obtain ⟨w1, w2, w3⟩ := val_hand V x.ev.toNat
    have hfi := hand_fine hok x.ev.toNat
    have htl : totL (handP p x.ev.toNat) ≤ 1000000000 := hand_tot p x.ev.toNat hT
    have cR := fun (a b c d : AObj) => mrun_run (us := us) V.len hl (H0.length + 6) (H0.length + 5) (H0.length + 4) x.i0 x.i1 x.i2 x.i3 _ (handP p x.ev.toNat) (Nat.le_refl _) w1 hfi htl st
      (H0 ++ [a, b, c, d, .arr 3 1 (nR st), .imap opsT, .cells 59 [.rs 5 (p.vars.map encV), .os (H0.length + 4) 0 st.length st.length, .i x.i0, .i x.i1, .i x.i2, .i x.i3, .mp (H0.length + 5)]]) hs ⟨⟨getOk _ _ _, getOk _ _ _⟩, getOk _ _ _⟩
    have hev : (x.ev = 0 ∧ handP p x.ev.toNat = p.on0) ∨ (x.ev = 1 ∧ handP p x.ev.toNat = p.on1) ∨ (x.ev = 2 ∧ handP p x.ev.toNat = p.on2) ∨ (x.ev = 3 ∧ handP p x.ev.toNat = p.on3) ∨ (x.ev = 4 ∧ handP p x.ev.toNat = p.on4) := by
      have := call_ev hc
      have h5 : x.ev = 0 ∨ x.ev = 1 ∨ x.ev = 2 ∨ x.ev = 3 ∨ x.ev = 4 := by omega
      rcases h5 with h | h | h | h | h <;> rw [h] <;> simp [handP]
    cases hq : runStL p.vars x.i0 x.i1 x.i2 x.i3 (handP p x.ev.toNat) st with
    | ok st' =>
      have hl2 := runStL_len _ _ _ hq
      have q3 := nR_len st'
      simp only [hq, outR, mS, setOk, List.set_cons_succ, List.set_cons_zero] at cR
      simp only [runL, runE]
      rcases hev with ⟨e1, e2⟩ | ⟨e1, e2⟩ | ⟨e1, e2⟩ | ⟨e1, e2⟩ | ⟨e1, e2⟩
      all_goals
        rw [e2] at cR
        clear cW cC hM
        repeat' (first | refine awpd_seq ?_ | refine awp_block ?_ | (refine awpd_defer (id := 9) ?_; simp only [AWLD, go_sem, Nat.reduceAdd, Nat.reduceSub, Nat.reduceMul, Nat.reduceLeDiff, Nat.reduceLT, Nat.reduceEqDiff, Int.reduceToNat, Int.reduceAdd, Int.reduceMul, Int.reduceSub, Int.reduceLT, Int.reduceLE, Int.reduceEq, Int.reduceNeg, Int.reduceBEq, Int.reduceBNe, ↓reduceIte, reduceCtorEq, ls, f1, f2, q1, q2, List.nil_append, Nat.zero_add, e1]) | ((first | refine awpd_region_k fun Kn Kp hn hp => ?_ | show AWPD _ _ (Code.region 6 _ true) _ _ _ _; refine awpd_drawn_k (id := 6) [] [] [.win [0], .win [0], .win [0], .win [0], .win [0], .win [0], .win [0], .win [0], .win [0], .win [0], .win [0], .win [0], .win [0], .win [0], .win [0], .win [0]] 0 rfl (by as_aux_lemma => kernel_rfl) fun Kn Kp hn hp => ?_ | show AWPD _ _ (Code.region 10 _ true) _ _ _ _; refine awpd_drawn_k (id := 10) [2, 4, 7, 9] [] [.win [0, 1, 2, 3], .win [0, 1, 2, 3], .eff 0, .win [0, 1], .eff 1, .win [0, 1, 2, 3], .win [0, 1, 2, 3], .eff 2, .win [3], .eff 3, .win [4]] 4 rfl (by as_aux_lemma => kernel_rfl) fun Kn Kp hn hp => ?_ | refine oge_intro (by assumption) ?_ | (show AWE _ _ _ _ _ _ _ _ _; first | refine awe_intro (cO _ _ _ _ _) ?_ | refine awe_intro (cR _ _ _ _) ?_) | (show AWSF _ _ _ _ _ _ _ _ _ _ _; first | refine awsf_intro (cO _ _ _ _ _) (fun hrun => ?_) | refine awsf_intro (cR _ _ _ _) (fun hrun => ?_)) | (show OGE _ _ _ _ _ _ _; first | refine oge_intro (cO _ _ _ _ _) ?_ | refine oge_intro (cR _ _ _ _) ?_) | (show AWSE _ _ _ _ _ _ _ _ _ _ _; first | refine awse_intro (cO _ _ _ _ _) (fun hrun => ?_) | refine awse_intro (cR _ _ _ _) (fun hrun => ?_)) | (show PGE _ _ _ _ _; first | refine pge_intro (cO _ _ _ _ _) (fun tm' => ?_) | refine pge_intro (cR _ _ _ _) (fun tm' => ?_))) <;> (simp only [go_sem, Nat.reduceAdd, Nat.reduceSub, Nat.reduceMul, Nat.reduceLeDiff, Nat.reduceLT, Nat.reduceEqDiff, Int.reduceToNat, Int.reduceAdd, Int.reduceMul, Int.reduceSub, Int.reduceLT, Int.reduceLE, Int.reduceEq, Int.reduceNeg, Int.reduceBEq, Int.reduceBNe, ↓reduceIte, reduceCtorEq, ls, f1, f2, q1, q2, List.nil_append, Nat.zero_add, e1] <;> try simp (disch := omega) only [wrap_of])) | (refine hn _ _ ?_; clear hn hp Kn Kp) | (refine hp _ _ _ ?_; clear hn hp Kn Kp) | (refine awpd_cond rfl (fun hb => ?_) (fun hb => ?_) <;> (try simp only [decide_eq_true_eq, decide_eq_false_iff_not, Bool.not_eq_true', Bool.not_eq_false', Bool.true_eq_false, Bool.false_eq_true, beq_iff_eq, bne_iff_ne, bne_eq_false_iff_eq, beq_eq_false_iff_ne, gt_iff_lt, ge_iff_le, Int.reduceEq, Int.reduceNe, Int.reduceLT, Int.reduceLE, ne_eq, not_true_eq_false, not_false_eq_true] at hb)) | ((first | refine awg_split (fun hb => ?_) (fun hb => ?_) | refine awsg_split (fun hb => ?_) (fun hb => ?_)) <;> have hb0 := hb <;> (try simp only [decide_eq_true_eq, decide_eq_false_iff_not, Bool.not_eq_true', Bool.not_eq_false', Bool.true_eq_false, Bool.false_eq_true, beq_iff_eq, bne_iff_ne, bne_eq_false_iff_eq, beq_eq_false_iff_ne, gt_iff_lt, ge_iff_le, Int.reduceEq, Int.reduceNe, Int.reduceLT, Int.reduceLE, ne_eq, not_true_eq_false, not_false_eq_true] at hb0) <;> (try simp only [beq_true, beq_false, Bool.not_eq_true', Bool.not_eq_false'] at hb) <;> (simp only [go_sem, Nat.reduceAdd, Nat.reduceSub, Nat.reduceMul, Nat.reduceLeDiff, Nat.reduceLT, Nat.reduceEqDiff, Int.reduceToNat, Int.reduceAdd, Int.reduceMul, Int.reduceSub, Int.reduceLT, Int.reduceLE, Int.reduceEq, Int.reduceNeg, Int.reduceBEq, Int.reduceBNe, ↓reduceIte, reduceCtorEq, ls, f1, f2, q1, q2, List.nil_append, Nat.zero_add, e1, hb, hb0] <;> try simp (disch := omega) only [wrap_of])) | (refine And.intro ?_ ?_) | refine awpd_ret ?_ | refine awpd_skip ?_ | refine awloop_step ?_ | fail)
        refine ⟨_, runD_none _ _ _, ?_⟩
        (refine resC ?_; (repeat' (first | exact True.intro | refine Lf.mk ?_ ?_)))
        rw [if_pos (by omega), List.take_of_length_le (by omega), nR_toPVs]
        exact Cv.refl _
    | error z =>
      simp only [hq, outR, mS, setOk, List.set_cons_succ, List.set_cons_zero] at cR
      simp only [runL, runE]
      rcases hev with ⟨e1, e2⟩ | ⟨e1, e2⟩ | ⟨e1, e2⟩ | ⟨e1, e2⟩ | ⟨e1, e2⟩
      all_goals
        rw [e2] at cR
        clear cW cC hM
        generalize stopL _ _ _ _ _ _ _ = stp at *
        repeat' (first | refine awpd_seq ?_ | refine awp_block ?_ | (refine awpd_defer (id := 9) ?_; simp only [AWLD, go_sem, Nat.reduceAdd, Nat.reduceSub, Nat.reduceMul, Nat.reduceLeDiff, Nat.reduceLT, Nat.reduceEqDiff, Int.reduceToNat, Int.reduceAdd, Int.reduceMul, Int.reduceSub, Int.reduceLT, Int.reduceLE, Int.reduceEq, Int.reduceNeg, Int.reduceBEq, Int.reduceBNe, ↓reduceIte, reduceCtorEq, ls, f1, f2, q1, q2, List.nil_append, Nat.zero_add, e1]) | ((first | refine awpd_region_k fun Kn Kp hn hp => ?_ | show AWPD _ _ (Code.region 6 _ true) _ _ _ _; refine awpd_drawn_k (id := 6) [] [] [.win [0], .win [0], .win [0], .win [0], .win [0], .win [0], .win [0], .win [0], .win [0], .win [0], .win [0], .win [0], .win [0], .win [0], .win [0], .win [0]] 0 rfl (by as_aux_lemma => kernel_rfl) fun Kn Kp hn hp => ?_ | show AWPD _ _ (Code.region 10 _ true) _ _ _ _; refine awpd_drawn_k (id := 10) [2, 4, 7, 9] [] [.win [0, 1, 2, 3], .win [0, 1, 2, 3], .eff 0, .win [0, 1], .eff 1, .win [0, 1, 2, 3], .win [0, 1, 2, 3], .eff 2, .win [3], .eff 3, .win [4]] 4 rfl (by as_aux_lemma => kernel_rfl) fun Kn Kp hn hp => ?_ | refine oge_intro (by assumption) ?_ | (show AWE _ _ _ _ _ _ _ _ _; first | refine awe_intro (cO _ _ _ _ _) ?_ | refine awe_intro (cR _ _ _ _) ?_) | (show AWSF _ _ _ _ _ _ _ _ _ _ _; first | refine awsf_intro (cO _ _ _ _ _) (fun hrun => ?_) | refine awsf_intro (cR _ _ _ _) (fun hrun => ?_)) | (show OGE _ _ _ _ _ _ _; first | refine oge_intro (cO _ _ _ _ _) ?_ | refine oge_intro (cR _ _ _ _) ?_) | (show AWSE _ _ _ _ _ _ _ _ _ _ _; first | refine awse_intro (cO _ _ _ _ _) (fun hrun => ?_) | refine awse_intro (cR _ _ _ _) (fun hrun => ?_)) | (show PGE _ _ _ _ _; first | refine pge_intro (cO _ _ _ _ _) (fun tm' => ?_) | refine pge_intro (cR _ _ _ _) (fun tm' => ?_))) <;> (simp only [go_sem, Nat.reduceAdd, Nat.reduceSub, Nat.reduceMul, Nat.reduceLeDiff, Nat.reduceLT, Nat.reduceEqDiff, Int.reduceToNat, Int.reduceAdd, Int.reduceMul, Int.reduceSub, Int.reduceLT, Int.reduceLE, Int.reduceEq, Int.reduceNeg, Int.reduceBEq, Int.reduceBNe, ↓reduceIte, reduceCtorEq, ls, f1, f2, q1, q2, List.nil_append, Nat.zero_add, e1] <;> try simp (disch := omega) only [wrap_of])) | (refine hn _ _ ?_; clear hn hp Kn Kp) | (refine hp _ _ _ ?_; clear hn hp Kn Kp) | (refine awpd_cond rfl (fun hb => ?_) (fun hb => ?_) <;> (try simp only [decide_eq_true_eq, decide_eq_false_iff_not, Bool.not_eq_true', Bool.not_eq_false', Bool.true_eq_false, Bool.false_eq_true, beq_iff_eq, bne_iff_ne, bne_eq_false_iff_eq, beq_eq_false_iff_ne, gt_iff_lt, ge_iff_le, Int.reduceEq, Int.reduceNe, Int.reduceLT, Int.reduceLE, ne_eq, not_true_eq_false, not_false_eq_true] at hb)) | ((first | refine awg_split (fun hb => ?_) (fun hb => ?_) | refine awsg_split (fun hb => ?_) (fun hb => ?_)) <;> have hb0 := hb <;> (try simp only [decide_eq_true_eq, decide_eq_false_iff_not, Bool.not_eq_true', Bool.not_eq_false', Bool.true_eq_false, Bool.false_eq_true, beq_iff_eq, bne_iff_ne, bne_eq_false_iff_eq, beq_eq_false_iff_ne, gt_iff_lt, ge_iff_le, Int.reduceEq, Int.reduceNe, Int.reduceLT, Int.reduceLE, ne_eq, not_true_eq_false, not_false_eq_true] at hb0) <;> (try simp only [beq_true, beq_false, Bool.not_eq_true', Bool.not_eq_false'] at hb) <;> (simp only [go_sem, Nat.reduceAdd, Nat.reduceSub, Nat.reduceMul, Nat.reduceLeDiff, Nat.reduceLT, Nat.reduceEqDiff, Int.reduceToNat, Int.reduceAdd, Int.reduceMul, Int.reduceSub, Int.reduceLT, Int.reduceLE, Int.reduceEq, Int.reduceNeg, Int.reduceBEq, Int.reduceBNe, ↓reduceIte, reduceCtorEq, ls, f1, f2, q1, q2, List.nil_append, Nat.zero_add, e1, hb, hb0] <;> try simp (disch := omega) only [wrap_of])) | (refine And.intro ?_ ?_) | refine awpd_ret ?_ | refine awpd_skip ?_ | refine awloop_step ?_ | fail)
        refine ⟨_, runD_pan _ _ (by omega) _ z _ 0 (by rw [getOk]; rfl) (by rw [getOk]; rfl), ?_⟩
        (refine resC ?_; (repeat' (first | exact True.intro | refine Lf.mk ?_ ?_)))
        (repeat' (first | exact trivial | exact Cv.refl _ | exact Cv.nil (Nat.succ_pos _) | exact PCv.refl _ | exact PCv.nil (Nat.succ_pos _) | refine And.intro ?_ ?_ | refine Cv.agg ?_ | refine Cv.tup ?_ | refine Cv.pv (PCv.rs ?_) | refine PCv.rs ?_))
  | cons v rest =>
    obtain ⟨hvk, hlt, hd, hm⟩ := drop_cons hr
    have hv' : (p.vars.map encV)[k]? = some (cV v) := by rw [List.getElem?_map, hvk]; rfl
    have hks : k < st.length := by omega
    obtain ⟨n, hn2⟩ : ∃ n, st[k]? = some n := ⟨_, List.getElem?_eq_getElem hks⟩
    have hs2 : (rI st)[k]? = some [.i n] := by rw [List.getElem?_map, hn2]; rfl
    have hsd : st.drop k = n :: st.drop (k + 1) := by rw [List.drop_eq_getElem_cons hks]; congr 1; rw [List.getElem?_eq_getElem hks] at hn2; exact Option.some.inj hn2
    have hlt2 : (k : Int) < (st.length : Int) := by omega
    rw [hr, hsd] at k2
    simp only [stIn] at k2
    by_cases hin : v.low ≤ n ∧ n ≤ v.high
    · rw [decide_eq_true hin, Bool.true_and] at k2
      have p1 : ¬ n < v.low := by omega
      have p2 : ¬ v.high < n := by omega
      (have rr1 := dr15_6_X30k; have rr2 := dr15_10_X30k; have ww1 := hlt; have ww2 := hv'; have ww3 := hw; have ww4 := hs2; have ww5 := hlt2; have ww6 := p1; have ww7 := p2; have ww8 := ls; refine wk ?_; clear rr1 rr2 ww1 ww2 ww3 ww4 ww5 ww6 ww7 ww8; (repeat' first | exact True.intro | refine Lf.mk ?_ ?_); all_goals intro hP)
      refine ⟨k + 1, by omega, ⟨by omega, by rw [k2, hd]⟩, ?_⟩
      refine Wk.dropE (L := [.cells 47 ((cV v).map AV.pv)]) (by simp) 1 ?_
      simp only [List.map_cons, List.map_nil, AV.low, List.length_append, List.length_cons, List.length_nil, Nat.lt_irrefl, if_false, Fgt, true_or, or_true, and_true, true_and, Nat.lt_add_right_iff_pos, Nat.add_lt_add_iff_left, Nat.lt_add_one, Nat.reduceLT, if_true, eq_self, Nat.zero_add, Nat.reduceAdd]
    · rw [decide_eq_false hin, Bool.false_and] at k2
      have hM : runM p st x = .error 1 := by unfold runM; rw [if_neg (fun h => by rw [k2] at h; exact absurd h.2.1 (by simp))]
      rw [hM]
      simp only [runL, runE]
      by_cases p1 : n < v.low
      · (have rr1 := dr15_6_X30k; have rr2 := dr15_10_X30k; have ww1 := hlt; have ww2 := hv'; have ww3 := hw; have ww4 := hs2; have ww5 := hlt2; have ww6 := p1; have ww7 := ls; refine wk ?_; clear rr1 rr2 ww1 ww2 ww3 ww4 ww5 ww6 ww7; (repeat' first | exact True.intro | refine Lf.mk ?_ ?_); all_goals intro hP)
        (refine resC ?_; (repeat' (first | exact True.intro | refine Lf.mk ?_ ?_)))
        (repeat' (first | exact trivial | exact Cv.refl _ | exact Cv.nil (Nat.succ_pos _) | exact PCv.refl _ | exact PCv.nil (Nat.succ_pos _) | refine And.intro ?_ ?_ | refine Cv.agg ?_ | refine Cv.tup ?_ | refine Cv.pv (PCv.rs ?_) | refine PCv.rs ?_))
      · have p2 : v.high < n := by omega
        (have rr1 := dr15_6_X30k; have rr2 := dr15_10_X30k; have ww1 := hlt; have ww2 := hv'; have ww3 := hw; have ww4 := hs2; have ww5 := hlt2; have ww6 := p1; have ww7 := p2; have ww8 := ls; refine wk ?_; clear rr1 rr2 ww1 ww2 ww3 ww4 ww5 ww6 ww7 ww8; (repeat' first | exact True.intro | refine Lf.mk ?_ ?_); all_goals intro hP)
        (refine resC ?_; (repeat' (first | exact True.intro | refine Lf.mk ?_ ?_)))
        (repeat' (first | exact trivial | exact Cv.refl _ | exact Cv.nil (Nat.succ_pos _) | exact PCv.refl _ | exact PCv.nil (Nat.succ_pos _) | refine And.intro ?_ ?_ | refine Cv.agg ?_ | refine Cv.tup ?_ | refine Cv.pv (PCv.rs ?_) | refine PCv.rs ?_))
theorem totS_le (s : St) : tot s ≤ wS s := by
  have hl : ∀ l : List St, (∀ k ∈ l, tot k ≤ wS k) → totL l ≤ wSL l := by
    intro l
    induction l with
    | nil => intro _; simp [totL]
    | cons x xs ih => intro h; simp only [totL, wSL]; have := h x (by simp); have := ih (fun k hk => h k (by simp [hk])); omega
  induction s using St.ind with
  | h s h1 h2 => rw [tot_eq, wS_eq]; have := hl _ h1; have := hl _ h2; omega
theorem totL_le : ∀ l : List St, totL l ≤ wSL l
  | [] => by simp [totL]
  | s :: l => by simp only [totL, wSL]; have := totS_le s; have := totL_le l; omega
/-- A program of bounded size. -/
structure PM (p : Prg) : Prop where
  w : wSL p.on0 + wSL p.on1 + wSL p.on2 + wSL p.on3 + wSL p.on4 ≤ 900000
  l : p.vars.length ≤ 1000000
  z : p.name.size ≤ 2000000
  zv : ∀ v ∈ p.vars, v.name.size ≤ 2000000
theorem PM.mstart {p : Prg} (h : PM p) (H0 : List AObj) : ARun Try.prog 7 [.ag (cP p)] H0 (.ret (.tup [.rs 1 (rI (runL (startR p))), .i (runE (startR p))]) H0) :=
  MStart_run p h.l (okP_of h.w) h.z h.zv H0
theorem PM.mrun {p : Prg} (h : PM p) (st : List Int) (x : Cal) (H0 : List AObj) : ARun Try.prog 15 [.ag (cP p), .rs 1 (rI st), agL x] H0 (.ret (.tup [.rs 1 (rI (runL (runM p st x))), .i (runE (runM p st x))]) H0) := by
  by_cases hb : callOk x = true ∧ st.length = p.vars.length ∧ validB p = true
  · refine MRun_good p h.l (okP_of h.w) h.z h.zv st x ?_ hb.1 hb.2.1 hb.2.2 H0
    have := h.w
    have := totL_le p.on0
    have := totL_le p.on1
    have := totL_le p.on2
    have := totL_le p.on3
    have := totL_le p.on4
    omega
  · have hM : runM p st x = .error 1 := by
      unfold runM
      rw [if_neg]
      rintro ⟨a, b, c⟩
      exact hb ⟨a, stIn_len b, c⟩
    rw [hM]
    exact MRun_bad p h.l (okP_of h.w) h.z h.zv st x hb H0
theorem low_row {H : List AObj} {id t sz n d : Nat} {rows : List (List PV)} (h : H[id]? = some (.arr t sz (pvRows rows))) (hn : rows.length = n) : (AV.os id 0 n n).low H 0 (d + 1) = .pv (.rs sz rows) := by
  subst hn
  simp only [AV.low, Nat.not_lt_zero, if_false, AV.toPV, h, pvRows_len, Nat.zero_le, and_self, if_true, List.drop_zero]
  rw [List.take_of_length_le (by rw [pvRows_len]; exact Nat.le_refl _)]
  unfold pvRows
  rw [toPVs_pvs]
  rfl
theorem dr8_5_X30r : Drawn Try.prog 5 (regOps 5 ((Try.f8.body).getD .skip)) [4, 5] [] [.win [0, 1], .win [0, 1], .win [0, 1], .win [0, 1], .eff 0, .eff 1] 2 [] := ⟨rfl, by as_aux_lemma => kernel_rfl⟩
def dE8 : Ex := .mk 0 0 0 []
abbrev w8 : Ex := .mk 2 0 0 []
/-- The example. -/
def pEx8 : Prg := ⟨⟨#[99]⟩, [⟨⟨#[119]⟩, 1, 1, 9, 2⟩], [.mk 1 0 0 (.mk 9 0 0 [.mk 4 0 0 [w8, .mk 3 0 0 []], .mk 1 9 1 []]) dE8 [] []],
  [.mk 2 0 3 w8 (.mk 1 4 1 []) [.mk 1 0 0 (.mk 7 0 0 [w8, .mk 1 2 0 []]) dE8 [] []] [.mk 1 0 0 (.mk 5 0 0 [w8, .mk 1 1 1 []]) dE8 [] []]], [], [], [], 0, -1⟩
theorem number8_run (n : Int) (H0 : List AObj) : ARun Try.prog 12 [.i n] H0 (.ret (.ag (cE (.mk 1 n 1 []))) H0) := by
  show ARun Try.prog 12 [.i n] H0 (.ret (.agg [.i 1, .i n, .i 1, .rs 4 []]) H0)
  (refine ARun.intro Try.func12 rfl Try.call12 Try.ntmps12 Try.results12 ?_; simp only [List.length_cons, List.length_nil, List.length_map, Nat.reduceAdd, Nat.reduceSub, List.replicate_succ, List.replicate_zero, List.cons_append, List.nil_append])
  (refine wk ?_; (repeat' first | exact True.intro | refine Lf.mk ?_ ?_); all_goals intro hP)
  (refine resC ?_; (repeat' (first | exact True.intro | refine Lf.mk ?_ ?_)))
  (repeat' (first | exact trivial | exact Cv.refl _ | exact Cv.nil (Nat.succ_pos _) | exact PCv.refl _ | exact PCv.nil (Nat.succ_pos _) | refine And.intro ?_ ?_ | refine Cv.agg ?_ | refine Cv.tup ?_ | refine Cv.pv (PCv.rs ?_) | refine PCv.rs ?_))
theorem two8_run (op : Int) (a b : Ex) (H0 : List AObj) : ARun Try.prog 11 [.i op, .ag (cE a), .ag (cE b)] H0 (.ret (.ag (cE (.mk op 0 0 [a, b]))) H0) := by
  show ARun Try.prog 11 [.i op, .ag (cE a), .ag (cE b)] H0 (.ret (.agg [.i op, .i 0, .i 0, .rs 4 [encE a, encE b]]) H0)
  rw [encE_eq a, encE_eq b]
  (refine ARun.intro Try.func11 rfl Try.call11 Try.ntmps11 Try.results11 ?_; simp only [List.length_cons, List.length_nil, List.length_map, Nat.reduceAdd, Nat.reduceSub, List.replicate_succ, List.replicate_zero, List.cons_append, List.nil_append])
  (refine wk ?_; (repeat' first | exact True.intro | refine Lf.mk ?_ ?_); all_goals intro hP)
  (refine resC ?_; (repeat' (first | exact True.intro | refine Lf.mk ?_ ?_)))
  (repeat' (first | exact trivial | exact Cv.refl _ | exact Cv.nil (Nat.succ_pos _) | exact PCv.refl _ | exact PCv.nil (Nat.succ_pos _) | refine And.intro ?_ ?_ | refine Cv.agg ?_ | refine Cv.tup ?_ | refine Cv.pv (PCv.rs ?_) | refine PCv.rs ?_))
/-- An expression without parts, as it is written. -/
abbrev lf8 (op n u : Int) : AV := .agg [.i op, .i n, .i u, .pv (.sc (.slice none 0 0))]
theorem lf8_cv (op n u : Int) : Cv (lf8 op n u) (.ag (cE (.mk op n u []))) := by
  show Cv _ (.agg [.i op, .i n, .i u, .rs 4 []])
  (repeat' (first | exact trivial | exact Cv.refl _ | exact Cv.nil (Nat.succ_pos _) | exact PCv.refl _ | exact PCv.nil (Nat.succ_pos _) | refine And.intro ?_ ?_ | refine Cv.agg ?_ | refine Cv.tup ?_ | refine Cv.pv (PCv.rs ?_) | refine PCv.rs ?_))
theorem two8_cv (op : Int) {x y : AV} (a b : Ex) (hx : Cv x (.ag (cE a))) (hy : Cv y (.ag (cE b))) (H0 : List AObj) : ARun Try.prog 11 [.i op, x, y] H0 (.ret (.ag (cE (.mk op 0 0 [a, b]))) H0) :=
  (two8_run op a b H0).cv ⟨Cv.refl _, hx, hy, trivial⟩
theorem example8_run (H0 : List AObj) : ARun Try.prog 8 [] H0 (.ret (.ag (cP pEx8)) H0) := by
  have c1 := fun H => two8_cv 4 w8 (.mk 3 0 0 []) (lf8_cv 2 0 0) (lf8_cv 3 0 0) H
  have c2 := fun H => two8_run 9 (.mk 4 0 0 [w8, .mk 3 0 0 []]) (.mk 1 9 1 []) H
  have c3 := fun H => two8_cv 7 w8 (.mk 1 2 0 []) (lf8_cv 2 0 0) (lf8_cv 1 2 0) H
  have c4 := fun H => two8_cv 5 w8 (.mk 1 1 1 []) (lf8_cv 2 0 0) (Cv.refl _) H
  have cN := fun n H => number8_run n H
  simp only [lf8, Ex.op, Ex.n, Ex.unit, Ex.kids, List.map_cons, List.map_nil, encE, encEs] at c1 c2 c3 c4 cN
  (refine ARun.intro Try.func8 rfl Try.call8 Try.ntmps8 Try.results8 ?_; simp only [List.length_cons, List.length_nil, List.length_map, Nat.reduceAdd, Nat.reduceSub, List.replicate_succ, List.replicate_zero, List.cons_append, List.nil_append])
  (have rr1 := dr8_5_X30r; have cc1 := fun z1 => c1 z1; have cc2 := fun z1 => c2 z1; have cc3 := fun z1 => c3 z1; have cc4 := fun z1 => c4 z1; have cc5 := fun z1 z2 => cN z1 z2; refine wkS ?_; clear rr1 cc1 cc2 cc3 cc4 cc5; (repeat' first | exact True.intro | refine Lf.mk ?_ ?_); all_goals intro hP)
  (refine awp_drawnO_k (id := 6) [3, 5, 7, 10] [] [([3, 5, 7, 10], [0, 1, 2, 3, 4, 5, 6, 7, 8, 9, 10], [.win [0, 1, 2], .win [0, 1, 2], .win [0], .eff 0, .win [0, 1], .eff 1, .win [2], .eff 2, .win [0, 1, 2, 3], .win [3], .eff 3]), ([5, 3, 7, 10], [0, 1, 2, 4, 5, 3, 6, 7, 8, 9, 10], [.win [0, 1, 2], .win [0, 1, 2], .win [0, 1], .eff 1, .win [0], .eff 0, .win [2], .eff 2, .win [0, 1, 2, 3], .win [3], .eff 3])] 4 rfl (by as_aux_lemma => kernel_rfl) fun Kn Kp hn hp => ?_; simp only [List.forall_mem_cons, List.not_mem_nil, false_implies, implies_true, and_true, go_sem, Nat.reduceAdd, Nat.reduceSub, Nat.reduceMul, Nat.reduceLeDiff, Nat.reduceLT, Nat.reduceEqDiff, Int.reduceToNat, Int.reduceAdd, Int.reduceMul, Int.reduceSub, Int.reduceLT, Int.reduceLE, Int.reduceEq, Int.reduceNeg, Int.reduceBEq, Int.reduceBNe, ↓reduceIte, reduceCtorEq, pick])
  (have rr1 := dr8_5_X30r; have cc1 := fun z1 z2 => cN z1 z2; refine wkS ?_; clear rr1 cc1; (repeat' first | exact True.intro | refine Lf.mk ?_ ?_); all_goals intro hP)
  all_goals
    refine hn _ _ ?_
    clear hn hp Kn Kp
    (have rr1 := dr8_5_X30r; refine wkS ?_; clear rr1; (repeat' first | exact True.intro | refine Lf.mk ?_ ?_); all_goals intro hP)
    refine ⟨_, rfl, _, rfl, Fin.pureC 6 ?_⟩
    simp only [List.map_cons, List.map_nil, AV.low, AV.toPV, AV.toPVs, AV.toPVr, getO0, getOk, getS0, getSk, List.getElem?_cons_zero, List.getElem?_cons_succ, Nat.not_lt_zero, if_false, if_true, List.length_cons, List.length_nil, Nat.zero_le, and_self, and_true, true_and, List.drop_zero, List.take_succ_cons, List.take_zero, List.take_nil, Option.map_some, Nat.zero_add, not_lt_k, show ∀ n k : Nat, (n ≤ n + k) = True from fun n k => by simp, Nat.le_refl]
  all_goals
    show Cv _ (.agg (_ :: _ :: _ :: _ :: _ :: _ :: _ :: _ :: _ :: []))
    simp only [pEx8, dE8, List.map_cons, List.map_nil, encS, encSs, encE, encEs, encV, Ex.op, Ex.n, Ex.unit, Ex.kids]
    (repeat' (first | exact trivial | exact Cv.refl _ | exact Cv.nil (Nat.succ_pos _) | exact PCv.refl _ | exact PCv.nil (Nat.succ_pos _) | refine And.intro ?_ ?_ | refine Cv.agg ?_ | refine Cv.tup ?_ | refine Cv.pv (PCv.rs ?_) | refine PCv.rs ?_))
theorem pmEx8 : PM pEx8 := ⟨by decide, by decide, by decide, by decide⟩
theorem low_ag (ps : List PV) (H : List AObj) (m d : Nat) : (AV.ag ps).low H m d = .ag ps := by
  simp only [AV.low, List.map_map, AV.agg.injEq]
  exact List.map_congr_left fun p _ => by simp only [Function.comp_apply, AV.low]
theorem frz_ag (ps : List PV) (i sz : Nat) (rows : List (List PV)) : AV.frz i sz rows (.ag ps) = .ag ps := by
  simp only [AV.frz, List.map_map, AV.agg.injEq]
  exact List.map_congr_left fun p _ => by simp only [Function.comp_apply, AV.frz]
theorem PM.mrunF {p : Prg} (h : PM p) (st : List Int) (x : Cal) {id n : Nat} {H : List AObj} (hr : H[id]? = some (.arr 3 1 (nR st))) (hl : st.length = n) :
    ARun Try.prog 15 [.ag (cP p), .os id 0 n n, agL x] H (.ret (.tup [.rs 1 (rI (runL (runM p st x))), .i (runE (runM p st x))]) (H.set id .dead)) := by
  refine ARun.frz (t := 3) (sz := 1) (rows := rI st) id hr (h.mrun st x _) ?_
  subst hl
  simp only [List.map_cons, List.map_nil, frz_ag]
  simp only [AV.frz, List.length_map, and_self, if_true, List.map_cons, List.map_nil]
  exact ⟨Cv.refl _, Cv.refl _, Cv.refl _, trivial⟩
theorem Ints_own (a b : List Int) (hl : a.length ≤ 2000000) {id n : Nat} {H : List AObj} (hr : H[id]? = some (.arr 3 1 (nR b))) (hb : b.length = n) :
    ARun Try.prog 9 [.rs 1 (rI a), .os id 0 n n] H (.ret (.b (a == b)) H) := by
  refine ARun.lend 2 (Ints_run a b hl []) ?_ rfl
  simp only [List.map_cons, List.map_nil]
  rw [low_row (rows := rI b) hr (by simpa using hb)]
  simp only [AV.low]
  exact ⟨Cv.refl _, Cv.refl _, trivial⟩
theorem gives8_run (w ev ac want e : Int) (hr : (runM pEx8 [w] ⟨ev, ac, 1, 1, 0⟩ = .ok [want] ∧ e = 0) ∨ (runM pEx8 [w] ⟨ev, ac, 1, 1, 0⟩ = .error e ∧ e ≠ 0)) (H0 : List AObj) :
    ARun Try.prog 10 [.i w, .i ev, .i ac, .i want, .i e] H0 (.ret (.b true) H0) := by
  have cX := fun H => example8_run H
  have cR := pmEx8.mrunF [w] ⟨ev, ac, 1, 1, 0⟩ (id := H0.length) (n := 1) (H := H0 ++ [.arr 3 1 (nR [w])]) (getO0 _ _ _) rfl
  rcases hr with ⟨hr, rfl⟩ | ⟨hr, he⟩
  · rw [hr] at cR
    have cI := fun (o : AObj) => Ints_own [want] [want] (by simp) (id := H0.length + 1) (n := 1) (H := H0 ++ [o, .arr 3 1 (nR [want])]) (getOk _ _ _) rfl
    rw [show ([want] == [want]) = true by simp] at cI
    simp only [runL, runE, agL, List.map_cons, List.map_nil, pvRows, setO0] at cR cI
    (refine ARun.intro Try.func10 rfl Try.call10 Try.ntmps10 Try.results10 ?_; simp only [List.length_cons, List.length_nil, List.length_map, Nat.reduceAdd, Nat.reduceSub, List.replicate_succ, List.replicate_zero, List.cons_append, List.nil_append])
    (have cc1 := fun z1 => cX z1; have cc2 := cR; have cc3 := fun z1 => cI z1; refine wkS ?_; clear cc1 cc2 cc3; (repeat' first | exact True.intro | refine Lf.mk ?_ ?_); all_goals intro hP)
    (refine resX ?_; try exact True.intro)
  · rw [hr] at cR
    simp only [runL, runE, agL, List.map_cons, List.map_nil, pvRows, setO0] at cR
    have he' : (e == 0) = false := by simpa using he
    have he2 : (e != 0) = true := by simpa using he
    have ee : (e == e) = true := by simp
    (refine ARun.intro Try.func10 rfl Try.call10 Try.ntmps10 Try.results10 ?_; simp only [List.length_cons, List.length_nil, List.length_map, Nat.reduceAdd, Nat.reduceSub, List.replicate_succ, List.replicate_zero, List.cons_append, List.nil_append])
    repeat' (first | refine awp_seq ?_ | refine awp_block ?_ | refine awp_scope ?_ | ((first | refine awp_region_k fun Kn Kp hn hp => ?_ | refine oge_intro (by assumption) ?_ | (show AWE _ _ _ _ _ _ _ _ _; first | refine awe_intro (cX _) ?_ | refine awe_intro (cR) ?_) | (show AWSF _ _ _ _ _ _ _ _ _ _ _; first | refine awsf_intro (cX _) (fun hrun => ?_) | refine awsf_intro (cR) (fun hrun => ?_)) | (show OGE _ _ _ _ _ _ _; first | refine oge_intro (cX _) ?_ | refine oge_intro (cR) ?_) | (show AWSE _ _ _ _ _ _ _ _ _ _ _; first | refine awse_intro (cX _) (fun hrun => ?_) | refine awse_intro (cR) (fun hrun => ?_)) | (show PGE _ _ _ _ _; first | refine pge_intro (cX _) (fun tm' => ?_) | refine pge_intro (cR) (fun tm' => ?_))) <;> (simp only [go_sem, Nat.reduceAdd, Nat.reduceSub, Nat.reduceMul, Nat.reduceLeDiff, Nat.reduceLT, Nat.reduceEqDiff, Int.reduceToNat, Int.reduceAdd, Int.reduceMul, Int.reduceSub, Int.reduceLT, Int.reduceLE, Int.reduceEq, Int.reduceNeg, Int.reduceBEq, Int.reduceBNe, ↓reduceIte, reduceCtorEq, he', he2, ee, List.map_nil, List.length_nil] <;> try simp (disch := omega) only [wrap_of])) | (refine hn _ _ ?_; clear hn hp Kn Kp) | (refine hp _ _ _ ?_; clear hn hp Kn Kp) | (refine awp_cond rfl (fun hb => ?_) (fun hb => ?_) <;> (try simp only [decide_eq_true_eq, decide_eq_false_iff_not, Bool.not_eq_true', Bool.not_eq_false', Bool.true_eq_false, Bool.false_eq_true, beq_iff_eq, bne_iff_ne, bne_eq_false_iff_eq, beq_eq_false_iff_ne, gt_iff_lt, ge_iff_le, Int.reduceEq, Int.reduceNe, Int.reduceLT, Int.reduceLE, ne_eq, not_true_eq_false, not_false_eq_true] at hb)) | ((first | refine awg_split (fun hb => ?_) (fun hb => ?_) | refine awsg_split (fun hb => ?_) (fun hb => ?_)) <;> have hb0 := hb <;> (try simp only [decide_eq_true_eq, decide_eq_false_iff_not, Bool.not_eq_true', Bool.not_eq_false', Bool.true_eq_false, Bool.false_eq_true, beq_iff_eq, bne_iff_ne, bne_eq_false_iff_eq, beq_eq_false_iff_ne, gt_iff_lt, ge_iff_le, Int.reduceEq, Int.reduceNe, Int.reduceLT, Int.reduceLE, ne_eq, not_true_eq_false, not_false_eq_true] at hb0) <;> (try simp only [beq_true, beq_false, Bool.not_eq_true', Bool.not_eq_false'] at hb) <;> (simp only [go_sem, Nat.reduceAdd, Nat.reduceSub, Nat.reduceMul, Nat.reduceLeDiff, Nat.reduceLT, Nat.reduceEqDiff, Int.reduceToNat, Int.reduceAdd, Int.reduceMul, Int.reduceSub, Int.reduceLT, Int.reduceLE, Int.reduceEq, Int.reduceNeg, Int.reduceBEq, Int.reduceBNe, ↓reduceIte, reduceCtorEq, he', he2, ee, List.map_nil, List.length_nil, hb, hb0] <;> try simp (disch := omega) only [wrap_of])) | (refine And.intro ?_ ?_) | refine awp_skip ?_ | refine awp_ret ?_ | refine awp_exit ?_ | refine awp_label ?_ | refine awloop_step ?_ | (simp only [go_sem, Nat.reduceAdd, Nat.reduceSub, Nat.reduceMul, Nat.reduceLeDiff, Nat.reduceLT, Nat.reduceEqDiff, Int.reduceToNat, Int.reduceAdd, Int.reduceMul, Int.reduceSub, Int.reduceLT, Int.reduceLE, Int.reduceEq, Int.reduceNeg, Int.reduceBEq, Int.reduceBNe, ↓reduceIte, reduceCtorEq, he', he2, ee, List.map_nil, List.length_nil]) | fail)
    (refine resX ?_; try exact True.intro)
abbrev sv8 : Ex := .mk 5 0 0 [.mk 1 0 1 [], .mk 1 7 1 []]
theorem eval8_nil (e : Ex) (r : Except Int Int) (h : evalR [] 0 0 0 0 e = r) (H0 : List AObj) : ARun Try.prog 13 [.pv (.sc (.slice none 0 0)), .agg [.i 0, .i 0, .i 0, .i 0], .ag (cE e)] H0 (.ret (.tup [.i (vN r), .i (eN r)]) H0) := by
  subst h
  refine (MEval_run [] (by decide) 0 0 0 0 e H0).cv ⟨?_, Cv.refl _, Cv.refl _, trivial⟩
  (repeat' (first | exact trivial | exact Cv.refl _ | exact Cv.nil (Nat.succ_pos _) | exact PCv.refl _ | exact PCv.nil (Nat.succ_pos _) | refine And.intro ?_ ?_ | refine Cv.agg ?_ | refine Cv.tup ?_ | refine Cv.pv (PCv.rs ?_) | refine PCv.rs ?_))
theorem head8_run (H0 : List AObj) : ARun Try.prog 5 [] H0 (.ret (.b true) H0) := by
  have cX := fun H => example8_run H
  have cS := fun H => pmEx8.mstart H
  rw [show startR pEx8 = .ok [2] by kernel_rfl] at cS
  simp only [runL, runE] at cS
  have cI := Ints_run [2] [2] (by decide) []
  rw [show (([2] : List Int) == [2]) = true by decide] at cI
  simp only [List.map_cons, List.map_nil] at cI cS
  have g1 := fun H => gives8_run 2 0 3 5 0 (.inl ⟨by kernel_rfl, rfl⟩) H
  have g2 := fun H => gives8_run 8 0 3 9 0 (.inl ⟨by kernel_rfl, rfl⟩) H
  have g3 := fun H => gives8_run 7 1 1 3 0 (.inl ⟨by kernel_rfl, rfl⟩) H
  have g4 := fun H => gives8_run 1 1 1 0 15 (.inr ⟨by kernel_rfl, by decide⟩) H
  have g5 := fun H => gives8_run 10 1 1 0 1 (.inr ⟨by kernel_rfl, by decide⟩) H
  have n1 := fun n H => number8_run n H
  have t1 := fun H => two8_run 5 (.mk 1 0 1 []) (.mk 1 7 1 []) H
  have t2 := fun H => two8_run 7 sv8 (.mk 1 2 1 []) H
  have t3 := fun H => two8_run 8 sv8 (.mk 1 2 1 []) H
  have t4 := fun H => two8_run 8 sv8 (.mk 1 0 1 []) H
  have t5 := fun H => two8_run 6 (.mk 1 1000000000 1 []) (.mk 1 1001 1 []) H
  have e1 := fun H => eval8_nil (.mk 7 0 0 [sv8, .mk 1 2 1 []]) (.ok (-4)) (by kernel_rfl) H
  have e2 := fun H => eval8_nil (.mk 8 0 0 [sv8, .mk 1 2 1 []]) (.ok (-3)) (by kernel_rfl) H
  have e3 := fun H => eval8_nil (.mk 8 0 0 [sv8, .mk 1 0 1 []]) (.error 14) (by kernel_rfl) H
  have e4 := fun H => eval8_nil (.mk 6 0 0 [.mk 1 1000000000 1 [], .mk 1 1001 1 []]) (.error 3) (by kernel_rfl) H
  simp only [vN, eN] at e1 e2 e3 e4
  (refine ARun.intro Try.func5 rfl Try.call5 Try.ntmps5 Try.results5 ?_; simp only [List.length_cons, List.length_nil, List.length_map, Nat.reduceAdd, Nat.reduceSub, List.replicate_succ, List.replicate_zero, List.cons_append, List.nil_append])
  repeat' (first | refine awp_seq ?_ | refine awp_block ?_ | refine awp_scope ?_ | ((first | refine awp_region_k fun Kn Kp hn hp => ?_ | show AWP _ _ (Code.region 5 _ true) _ _ _; refine awp_drawn_k (id := 5) [2, 3, 4] [] [.win [0, 1, 2], .win [0, 1], .eff 0, .eff 1, .eff 2, .win [3], .win [3], .win [3], .win [3], .win [3]] 3 rfl (by as_aux_lemma => kernel_rfl) fun Kn Kp hn hp => ?_ | show AWP _ _ (Code.region 6 _ true) _ _ _; refine awp_drawn_k (id := 6) [2, 3, 4] [] [.win [0, 1, 2], .win [0, 1], .eff 0, .eff 1, .eff 2, .win [3], .win [3], .win [3], .win [3], .win [3]] 3 rfl (by as_aux_lemma => kernel_rfl) fun Kn Kp hn hp => ?_ | show AWP _ _ (Code.region 7 _ true) _ _ _; refine awp_drawn_k (id := 7) [2, 3, 4] [] [.win [0, 1, 2], .win [0, 1], .eff 0, .eff 1, .eff 2, .win [3], .win [3], .win [3], .win [3], .win [3]] 3 rfl (by as_aux_lemma => kernel_rfl) fun Kn Kp hn hp => ?_ | show AWP _ _ (Code.region 8 _ true) _ _ _; refine awp_drawn_k (id := 8) [1, 2, 3, 4] [] [.win [0, 1, 2, 3], .eff 0, .eff 1, .eff 2, .eff 3, .win [4], .win [4], .win [4], .win [4], .win [4]] 4 rfl (by as_aux_lemma => kernel_rfl) fun Kn Kp hn hp => ?_ | refine oge_intro (by assumption) ?_ | (show AWE _ _ _ _ _ _ _ _ _; first | refine awe_intro (cX _) ?_ | refine awe_intro (cS _) ?_ | refine awe_intro (g1 _) ?_ | refine awe_intro (g2 _) ?_ | refine awe_intro (g3 _) ?_ | refine awe_intro (g4 _) ?_ | refine awe_intro (g5 _) ?_ | refine awe_intro (n1 _ _) ?_ | refine awe_intro (t1 _) ?_ | refine awe_intro (t2 _) ?_ | refine awe_intro (t3 _) ?_ | refine awe_intro (t4 _) ?_ | refine awe_intro (t5 _) ?_ | refine awe_intro (e1 _) ?_ | refine awe_intro (e2 _) ?_ | refine awe_intro (e3 _) ?_ | refine awe_intro (e4 _) ?_) | (show AWSF _ _ _ _ _ _ _ _ _ _ _; first | refine awsf_intro (cX _) (fun hrun => ?_) | refine awsf_intro (cS _) (fun hrun => ?_) | refine awsf_intro (g1 _) (fun hrun => ?_) | refine awsf_intro (g2 _) (fun hrun => ?_) | refine awsf_intro (g3 _) (fun hrun => ?_) | refine awsf_intro (g4 _) (fun hrun => ?_) | refine awsf_intro (g5 _) (fun hrun => ?_) | refine awsf_intro (n1 _ _) (fun hrun => ?_) | refine awsf_intro (t1 _) (fun hrun => ?_) | refine awsf_intro (t2 _) (fun hrun => ?_) | refine awsf_intro (t3 _) (fun hrun => ?_) | refine awsf_intro (t4 _) (fun hrun => ?_) | refine awsf_intro (t5 _) (fun hrun => ?_) | refine awsf_intro (e1 _) (fun hrun => ?_) | refine awsf_intro (e2 _) (fun hrun => ?_) | refine awsf_intro (e3 _) (fun hrun => ?_) | refine awsf_intro (e4 _) (fun hrun => ?_)) | (show OGE _ _ _ _ _ _ _; first | refine oge_intro (cX _) ?_ | refine oge_intro (cS _) ?_ | refine oge_intro (g1 _) ?_ | refine oge_intro (g2 _) ?_ | refine oge_intro (g3 _) ?_ | refine oge_intro (g4 _) ?_ | refine oge_intro (g5 _) ?_ | refine oge_intro (n1 _ _) ?_ | refine oge_intro (t1 _) ?_ | refine oge_intro (t2 _) ?_ | refine oge_intro (t3 _) ?_ | refine oge_intro (t4 _) ?_ | refine oge_intro (t5 _) ?_ | refine oge_intro (e1 _) ?_ | refine oge_intro (e2 _) ?_ | refine oge_intro (e3 _) ?_ | refine oge_intro (e4 _) ?_) | (show AWSE _ _ _ _ _ _ _ _ _ _ _; first | refine awse_intro (cX _) (fun hrun => ?_) | refine awse_intro (cS _) (fun hrun => ?_) | refine awse_intro (g1 _) (fun hrun => ?_) | refine awse_intro (g2 _) (fun hrun => ?_) | refine awse_intro (g3 _) (fun hrun => ?_) | refine awse_intro (g4 _) (fun hrun => ?_) | refine awse_intro (g5 _) (fun hrun => ?_) | refine awse_intro (n1 _ _) (fun hrun => ?_) | refine awse_intro (t1 _) (fun hrun => ?_) | refine awse_intro (t2 _) (fun hrun => ?_) | refine awse_intro (t3 _) (fun hrun => ?_) | refine awse_intro (t4 _) (fun hrun => ?_) | refine awse_intro (t5 _) (fun hrun => ?_) | refine awse_intro (e1 _) (fun hrun => ?_) | refine awse_intro (e2 _) (fun hrun => ?_) | refine awse_intro (e3 _) (fun hrun => ?_) | refine awse_intro (e4 _) (fun hrun => ?_)) | (show PGE _ _ _ _ _; first | refine pge_intro (cX _) (fun tm' => ?_) | refine pge_intro (cS _) (fun tm' => ?_) | refine pge_intro (g1 _) (fun tm' => ?_) | refine pge_intro (g2 _) (fun tm' => ?_) | refine pge_intro (g3 _) (fun tm' => ?_) | refine pge_intro (g4 _) (fun tm' => ?_) | refine pge_intro (g5 _) (fun tm' => ?_) | refine pge_intro (n1 _ _) (fun tm' => ?_) | refine pge_intro (t1 _) (fun tm' => ?_) | refine pge_intro (t2 _) (fun tm' => ?_) | refine pge_intro (t3 _) (fun tm' => ?_) | refine pge_intro (t4 _) (fun tm' => ?_) | refine pge_intro (t5 _) (fun tm' => ?_) | refine pge_intro (e1 _) (fun tm' => ?_) | refine pge_intro (e2 _) (fun tm' => ?_) | refine pge_intro (e3 _) (fun tm' => ?_) | refine pge_intro (e4 _) (fun tm' => ?_))) <;> (simp only [go_sem, Nat.reduceAdd, Nat.reduceSub, Nat.reduceMul, Nat.reduceLeDiff, Nat.reduceLT, Nat.reduceEqDiff, Int.reduceToNat, Int.reduceAdd, Int.reduceMul, Int.reduceSub, Int.reduceLT, Int.reduceLE, Int.reduceEq, Int.reduceNeg, Int.reduceBEq, Int.reduceBNe, ↓reduceIte, reduceCtorEq] <;> try simp (disch := omega) only [wrap_of])) | (refine hn _ _ ?_; clear hn hp Kn Kp) | (refine hp _ _ _ ?_; clear hn hp Kn Kp) | (refine awp_cond rfl (fun hb => ?_) (fun hb => ?_) <;> (try simp only [decide_eq_true_eq, decide_eq_false_iff_not, Bool.not_eq_true', Bool.not_eq_false', Bool.true_eq_false, Bool.false_eq_true, beq_iff_eq, bne_iff_ne, bne_eq_false_iff_eq, beq_eq_false_iff_ne, gt_iff_lt, ge_iff_le, Int.reduceEq, Int.reduceNe, Int.reduceLT, Int.reduceLE, ne_eq, not_true_eq_false, not_false_eq_true] at hb)) | ((first | refine awg_split (fun hb => ?_) (fun hb => ?_) | refine awsg_split (fun hb => ?_) (fun hb => ?_)) <;> have hb0 := hb <;> (try simp only [decide_eq_true_eq, decide_eq_false_iff_not, Bool.not_eq_true', Bool.not_eq_false', Bool.true_eq_false, Bool.false_eq_true, beq_iff_eq, bne_iff_ne, bne_eq_false_iff_eq, beq_eq_false_iff_ne, gt_iff_lt, ge_iff_le, Int.reduceEq, Int.reduceNe, Int.reduceLT, Int.reduceLE, ne_eq, not_true_eq_false, not_false_eq_true] at hb0) <;> (try simp only [beq_true, beq_false, Bool.not_eq_true', Bool.not_eq_false'] at hb) <;> (simp only [go_sem, Nat.reduceAdd, Nat.reduceSub, Nat.reduceMul, Nat.reduceLeDiff, Nat.reduceLT, Nat.reduceEqDiff, Int.reduceToNat, Int.reduceAdd, Int.reduceMul, Int.reduceSub, Int.reduceLT, Int.reduceLE, Int.reduceEq, Int.reduceNeg, Int.reduceBEq, Int.reduceBNe, ↓reduceIte, reduceCtorEq, hb, hb0] <;> try simp (disch := omega) only [wrap_of])) | (refine And.intro ?_ ?_) | ((show AWE _ _ _ _ _ _ _ _ _; refine awe_intro (ARun.lendA ( cI)) ?_); (simp only [go_sem, Nat.reduceAdd, Nat.reduceSub, Nat.reduceMul, Nat.reduceLeDiff, Nat.reduceLT, Nat.reduceEqDiff, Int.reduceToNat, Int.reduceAdd, Int.reduceMul, Int.reduceSub, Int.reduceLT, Int.reduceLE, Int.reduceEq, Int.reduceNeg, Int.reduceBEq, Int.reduceBNe, ↓reduceIte, reduceCtorEq] <;> try simp (disch := omega) only [wrap_of])) | ((show AWSF _ _ _ _ _ _ _ _ _ _ _; refine awsf_intro (ARun.lendA ( cI)) (fun hrun => ?_)); (simp only [go_sem, Nat.reduceAdd, Nat.reduceSub, Nat.reduceMul, Nat.reduceLeDiff, Nat.reduceLT, Nat.reduceEqDiff, Int.reduceToNat, Int.reduceAdd, Int.reduceMul, Int.reduceSub, Int.reduceLT, Int.reduceLE, Int.reduceEq, Int.reduceNeg, Int.reduceBEq, Int.reduceBNe, ↓reduceIte, reduceCtorEq] <;> try simp (disch := omega) only [wrap_of])) | ((show OGE _ _ _ _ _ _ _; refine oge_intro (ARun.lendA ( cI)) ?_); (simp only [go_sem, Nat.reduceAdd, Nat.reduceSub, Nat.reduceMul, Nat.reduceLeDiff, Nat.reduceLT, Nat.reduceEqDiff, Int.reduceToNat, Int.reduceAdd, Int.reduceMul, Int.reduceSub, Int.reduceLT, Int.reduceLE, Int.reduceEq, Int.reduceNeg, Int.reduceBEq, Int.reduceBNe, ↓reduceIte, reduceCtorEq] <;> try simp (disch := omega) only [wrap_of])) | ((show AWSE _ _ _ _ _ _ _ _ _ _ _; refine awse_intro (ARun.lendA ( cI)) (fun hrun => ?_)); (simp only [go_sem, Nat.reduceAdd, Nat.reduceSub, Nat.reduceMul, Nat.reduceLeDiff, Nat.reduceLT, Nat.reduceEqDiff, Int.reduceToNat, Int.reduceAdd, Int.reduceMul, Int.reduceSub, Int.reduceLT, Int.reduceLE, Int.reduceEq, Int.reduceNeg, Int.reduceBEq, Int.reduceBNe, ↓reduceIte, reduceCtorEq] <;> try simp (disch := omega) only [wrap_of])) | refine awp_skip ?_ | refine awp_ret ?_ | refine awp_exit ?_ | refine awp_label ?_ | refine awloop_step ?_ | (simp only [go_sem, Nat.reduceAdd, Nat.reduceSub, Nat.reduceMul, Nat.reduceLeDiff, Nat.reduceLT, Nat.reduceEqDiff, Int.reduceToNat, Int.reduceAdd, Int.reduceMul, Int.reduceSub, Int.reduceLT, Int.reduceLE, Int.reduceEq, Int.reduceNeg, Int.reduceBEq, Int.reduceBNe, ↓reduceIte, reduceCtorEq]) | fail)
  (refine resX ?_; try exact True.intro)
end Go.Proofs.Ytpfjlifneibhfaa.Y
namespace Go.Proofs.Ytpfjlifneibhfaa.AL
/-- The value of an operation on two variables. -/
def valueR (op a b : Int) : Except Int Int := if isV a ∧ isV b then calcS op a b else .error 3
theorem valueR_is (op a b : Int) (hop : 4 ≤ op ∧ op ≤ 10) : valE [a, b] 0 0 0 0 (.mk op 0 0 [.mk 2 0 0 [], .mk 2 1 0 []]) = valueR op a b := by
  have hl : ∀ (n : Int), valE [a, b] 0 0 0 0 (.mk 2 n 0 []) = leafV [a, b] 0 0 0 0 2 n := fun n => by
    rw [valE]; simp only [valEs, nodeV, List.length_nil, if_true]; rw [if_neg (by omega)]
  have h0 : leafV [a, b] 0 0 0 0 2 0 = valS a := by unfold leafV; rw [if_neg (by omega), if_pos ⟨rfl, by omega, by simp⟩]; rfl
  have h1 : leafV [a, b] 0 0 0 0 2 1 = valS b := by unfold leafV; rw [if_neg (by omega), if_pos ⟨rfl, by omega, by simp⟩]; rfl
  rw [valE]
  simp only [valEs, hl, h0, h1]
  unfold valueR
  by_cases ha : isV a
  · rw [show valS a = .ok a from if_pos ha]
    by_cases hb : isV b
    · rw [show valS b = .ok b from if_pos hb, if_pos ⟨ha, hb⟩]
      simp only [nodeV]
      rw [if_pos hop]
    · rw [show valS b = .error 3 from if_neg hb, if_neg (fun h => hb h.2)]
  · rw [show valS a = .error 3 from if_neg ha, if_neg (fun h => ha h.1)]
theorem downS_rest {a b : Int} (hb : b ≠ 0) : (0 < b → 0 ≤ a - downS a b * b ∧ a - downS a b * b < b) ∧ (b < 0 → a - downS a b * b ≤ 0 ∧ b < a - downS a b * b) := by
  have h1 : a.tmod b = a - b * a.tdiv b := Int.tmod_def a b
  have h2 : b * a.tdiv b = a.tdiv b * b := Int.mul_comm _ _
  have hr : a.tmod b < b.natAbs ∧ -(b.natAbs : Int) < a.tmod b := by
    rcases Int.lt_or_lt_of_ne hb with h | h
    · have h3 := Int.tmod_lt_of_pos a (show 0 < -b by omega)
      have h4 := Int.lt_tmod_of_pos a (show 0 < -b by omega)
      rw [Int.tmod_neg] at h3 h4
      omega
    · have h3 := Int.tmod_lt_of_pos a h
      have h4 := Int.lt_tmod_of_pos a h
      omega
  have hs : (0 ≤ a → 0 ≤ a.tmod b) ∧ (a ≤ 0 → a.tmod b ≤ 0) := by
    refine ⟨fun h => Int.tmod_nonneg b h, fun h => ?_⟩
    have := Int.tmod_nonneg b (show 0 ≤ -a by omega)
    rw [Int.neg_tmod] at this
    omega
  unfold downS
  split
  · rename_i hc
    have hc2 := hc.2
    have e : (a.tdiv b - 1) * b = a.tdiv b * b - b := by rw [Int.sub_mul, Int.one_mul]
    rw [e]
    have hc3 : ¬ ((a < 0) ↔ (b < 0)) := by
      intro h
      rw [show decide (a < 0) = decide (b < 0) from decide_eq_decide.2 h] at hc2
      simp at hc2
    omega
  · rename_i hc
    by_cases h0 : a.tmod b = 0
    · omega
    · have hc3 : (a < 0) ↔ (b < 0) := by
        have : ¬ (decide (a < 0) != decide (b < 0)) = true := fun h => hc ⟨h0, h⟩
        simp only [bne_iff_ne, ne_eq, Decidable.not_not] at this
        exact decide_eq_decide.1 this
      omega
theorem downS_val {a b : Int} (ha : isV a) (hb0 : isV b) (hb : b ≠ 0) : isV (downS a b) := by
  have h := downS_bd ha hb
  have hr := downS_rest (a := a) hb
  refine ⟨?_, h.2⟩
  rcases Int.lt_or_le (downS a b) (-1000000000000) with hlt | hge
  · exfalso
    have e : downS a b = -1000000000001 := by omega
    rw [e] at hr
    by_cases hp : 0 < b
    · have := hr.1 hp; omega
    · have := hr.2 (by omega); omega
  · exact hge
theorem prodS_comm {a b : Int} (ha : isV a) (hb : isV b) : valS (prodS a b) = valS (prodS b a) := by
  have key : ∀ {x y : Int}, isV x → isV y → valS (prodS x y) = if isV (x * y) then .ok (x * y) else .error 3 := by
    intro x y hx hy
    by_cases h0 : x = 0
    · subst h0
      have : prodS 0 y = 0 := by simp [prodS]
      rw [this, Int.zero_mul]; rfl
    · rcases prod_guard hx hy h0 with ⟨_, g, e, _⟩ | ⟨g, e⟩
      · rw [e, if_pos g]; exact if_pos g
      · rw [e]
        have hn : ¬ isV (x * y) := by
          intro hv
          have hbm : 0 < bmS y := by rw [bm_abs]; omega
          have h1 : (1000000000000 : Int).tdiv (bmS y) = 1000000000000 / bmS y := Int.tdiv_eq_ediv_of_nonneg (by omega)
          rw [h1] at g
          have key : amS x ≤ 1000000000000 / bmS y ↔ amS x * bmS y ≤ 1000000000000 := Int.le_ediv_iff_mul_le hbm
          have h2 : 1000000000000 < amS x * bmS y := by
            rcases Int.lt_or_le 1000000000000 (amS x * bmS y) with h | h
            · exact h
            · have := key.2 h; omega
          by_cases hy0 : y = 0
          · subst hy0
            have : bmS 0 = 1 := by decide
            rw [this, am_abs] at h2; omega
          · have e2 : bmS y = (y.natAbs : Int) := by rw [bm_abs]; omega
            rw [e2, am_abs] at h2
            have e3 : ((x * y).natAbs : Int) = (x.natAbs : Int) * (y.natAbs : Int) := by rw [Int.natAbs_mul]; push_cast; rfl
            omega
        rw [if_neg hn]
        exact if_neg (by omega)
  rw [key ha hb, key hb ha, Int.mul_comm]
theorem valueR_comm (op a b : Int) (h : op = 4 ∨ op = 6 ∨ op = 9 ∨ op = 10) : valueR op a b = valueR op b a := by
  unfold valueR
  by_cases hv : isV a ∧ isV b
  · rw [if_pos hv, if_pos ⟨hv.2, hv.1⟩]
    rcases h with rfl | rfl | rfl | rfl
    · simp only [calcS]; simp [Int.add_comm]
    · have := prodS_comm hv.1 hv.2
      simp [calcS, this]
    · simp only [calcS]
      simp
      congr 1
      split <;> split <;> omega
    · simp only [calcS]
      simp
      congr 1
      split <;> split <;> omega
  · rw [if_neg hv, if_neg (fun h => hv ⟨h.2, h.1⟩)]
end Go.Proofs.Ytpfjlifneibhfaa.AL
namespace Go.Proofs.Ytpfjlifneibhfaa.Y
open Go.Proofs.Ytpfjlifneibhfaa.AL Go.Proofs Go
attribute [local irreducible] AWP AWL AWG AWR AWE AWX AWO AWSeq AWSG AWSR AWSO AWSE AWSF GoodP OGW OGR OGE OGX PGW PGR PGE Wk AWLoop AWPD AWLD
theorem dr6_2_X33a : Drawn Try.prog 2 (regOps 2 ((Try.f6.body).getD .skip)) [2] [] [.win [0], .win [0], .eff 0, .win [0, 1], .win [0, 1], .win [0, 1], .win [0, 1], .win [0, 1], .win [1], .win [1], .win [1], .win [1], .win [1]] 1 [] := ⟨rfl, by as_aux_lemma => kernel_rfl⟩
abbrev two2 (op : Int) : Ex := .mk op 0 0 [.mk 2 0 0 [], .mk 2 1 0 []]
theorem eval2_own (op a b : Int) (hop : 4 ≤ op ∧ op ≤ 10) {id : Nat} {H : List AObj} (h : H[id]? = some (.arr 3 1 (nR [a, b]))) :
    ARun Try.prog 13 [.os id 0 2 2, .agg [.i 0, .i 0, .i 0, .i 0], .ag (cE (two2 op))] H (.ret (.tup [.i (vN (valueR op a b)), .i (eN (valueR op a b))]) H) := by
  have e : evalR [a, b] 0 0 0 0 (two2 op) = valueR op a b := by
    rw [← valueR_is op a b hop]
    unfold evalR
    have h1 := (size_cap (two2 op) 60 (by omega)).2.1
    have h2 : nodes (two2 op) = 3 := by simp [nodes, nodesL]
    rw [if_neg (by omega)]
  have := MEval_run [a, b] (by simp) 0 0 0 0 (two2 op) []
  rw [e] at this
  refine ARun.lend 2 this ?_ rfl
  simp only [List.map_cons, List.map_nil, low_ag]
  rw [low_row (n := 2) (rows := rI [a, b]) h rfl]
  simp only [AV.low, List.map_cons, List.map_nil]
  exact ⟨Cv.refl _, Cv.refl _, Cv.refl _, trivial⟩
theorem value8_run (op a b : Int) (hop : 4 ≤ op ∧ op ≤ 10) (H0 : List AObj) :
    ARun Try.prog 6 [.i op, .i a, .i b] H0 (.ret (.tup [.i (vN (valueR op a b)), .i (eN (valueR op a b))]) H0) := by
  have cT := fun H => two8_cv op (.mk 2 0 0 []) (.mk 2 1 0 []) (lf8_cv 2 0 0) (lf8_cv 2 1 0) H
  have cE' := fun (o : AObj) => eval2_own op a b hop (id := H0.length + 1) (H := H0 ++ [o, .arr 3 1 (nR [a, b])]) (getOk _ _ _)
  simp only [lf8, Ex.op, Ex.n, Ex.unit, Ex.kids, List.map_cons, List.map_nil, pvRows] at cT cE'
  (refine ARun.intro Try.func6 rfl Try.call6 Try.ntmps6 Try.results6 ?_; simp only [List.length_cons, List.length_nil, List.length_map, Nat.reduceAdd, Nat.reduceSub, List.replicate_succ, List.replicate_zero, List.cons_append, List.nil_append])
  (have rr1 := dr6_2_X33a; have cc1 := fun z1 => cT z1; have cc2 := fun z1 => cE' z1; refine wkS ?_; clear rr1 cc1 cc2; (repeat' first | exact True.intro | refine Lf.mk ?_ ?_); all_goals intro hP)
  (refine resX ?_; try exact True.intro)
theorem MeaningQuotients_run (a b : Int) (hwa : -9223372036854775808 ≤ a ∧ a ≤ 9223372036854775807) (hwb : -9223372036854775808 ≤ b ∧ b ≤ 9223372036854775807) (H0 : List AObj) :
    ARun Try.prog 3 [.i a, .i b] H0 (.ret (.b true) H0) := by
  have hh := fun H => head8_run H
  by_cases hv : isV a ∧ isV b ∧ b ≠ 0
  · obtain ⟨ha, hb, h0⟩ := hv
    have hna : isV (-a) := by omega
    have v1 : valueR 7 a b = .ok (downS a b) := by
      unfold valueR
      rw [if_pos ⟨ha, hb⟩]
      simp only [calcS]
      have hv := downS_val ha hb h0
      simp [h0, valS, hv.1, hv.2]
    have v2 : valueR 8 a b = .ok (-downS (-a) b) := by
      unfold valueR
      rw [if_pos ⟨ha, hb⟩]
      simp only [calcS]
      have hv := downS_val hna hb h0
      have hv2 : isV (-downS (-a) b) := by omega
      simp [h0]
      exact if_pos hv2
    have v3 : valueR 7 (-a) b = .ok (downS (-a) b) := by
      unfold valueR
      rw [if_pos ⟨hna, hb⟩]
      simp only [calcS]
      have hv := downS_val hna hb h0
      simp [h0, valS, hv.1, hv.2]
    have c1 := fun H => value8_run 7 a b (by omega) H
    have c2 := fun H => value8_run 8 a b (by omega) H
    have c3 := fun H => value8_run 7 (-a) b (by omega) H
    rw [v1] at c1
    rw [v2] at c2
    rw [v3] at c3
    simp only [vN, eN] at c1 c2 c3
    have d1 := downS_val ha hb h0
    have d2 := downS_val hna hb h0
    have hr := downS_rest (a := a) h0
    have hm : IntKind.i64.wrap (downS a b * b) = downS a b * b := by
      by_cases hp : 0 < b
      · have := hr.1 hp; exact wrap_of (by omega) (by omega)
      · have := hr.2 (by omega); exact wrap_of (by omega) (by omega)
    have hm2 : IntKind.i64.wrap (a - IntKind.i64.wrap (downS a b * b)) = a - downS a b * b := by
      rw [hm]
      by_cases hp : 0 < b
      · have := hr.1 hp; exact wrap_of (by omega) (by omega)
      · have := hr.2 (by omega); exact wrap_of (by omega) (by omega)
    generalize downS (-a) b = d at *
    generalize hrr : a - downS a b * b = r at *
    generalize downS a b = q at *
    clear hm hrr v1 v2 v3
    (refine ARun.intro Try.func3 rfl Try.call3 Try.ntmps3 Try.results3 ?_; simp only [List.length_cons, List.length_nil, List.length_map, Nat.reduceAdd, Nat.reduceSub, List.replicate_succ, List.replicate_zero, List.cons_append, List.nil_append])
    (have ww1 := hm2; have cc1 := fun z1 => hh z1; have cc2 := fun z1 => c1 z1; have cc3 := fun z1 => c2 z1; have cc4 := fun z1 => c3 z1; refine wkO ?_; clear ww1 cc1 cc2 cc3 cc4; (repeat' first | exact True.intro | refine Lf.mk ?_ ?_); all_goals intro hP)
    all_goals first
      | (exfalso; omega)
      | ((refine resX ?_; try exact True.intro))
  · (refine ARun.intro Try.func3 rfl Try.call3 Try.ntmps3 Try.results3 ?_; simp only [List.length_cons, List.length_nil, List.length_map, Nat.reduceAdd, Nat.reduceSub, List.replicate_succ, List.replicate_zero, List.cons_append, List.nil_append])
    (have cc1 := fun z1 => hh z1; refine wkO ?_; clear cc1; (repeat' first | exact True.intro | refine Lf.mk ?_ ?_); all_goals intro hP)
    all_goals ((refine resX ?_; try exact True.intro))
abbrev bk (H : Type) (d : DataW H) : Nat := Go.Proofs.Ytpfjlifneibhfaa.Rows.uptoBulk d
abbrev bkl (H : Type) (d : List (DataW H)) : Nat := Go.Proofs.Ytpfjlifneibhfaa.Rows.uptoBulkAll d
theorem bulk : Bulk bk bkl where
  lit := fun H l => by cases l <;> simp [bk, Go.Proofs.Ytpfjlifneibhfaa.Rows.uptoBulk]
  str := fun H b => by simp [bk, Go.Proofs.Ytpfjlifneibhfaa.Rows.uptoBulk]
  nil := fun H => by simp [bk, Go.Proofs.Ytpfjlifneibhfaa.Rows.uptoBulk]
  slice := fun H es sp => by simp [bk, bkl, Go.Proofs.Ytpfjlifneibhfaa.Rows.uptoBulk]
  agg := fun H ps => by simp [bk, bkl, Go.Proofs.Ytpfjlifneibhfaa.Rows.uptoBulk]
  lnil := fun H => by simp [bkl, Go.Proofs.Ytpfjlifneibhfaa.Rows.uptoBulkAll]
  lcons := fun H d l => by simp [bk, bkl, Go.Proofs.Ytpfjlifneibhfaa.Rows.uptoBulkAll]
theorem laidOut : laidOutB Try.prog = true := by kernel_rfl
theorem own : ownKnob Try.prog.godebug = none := by kernel_rfl
theorem len1 {α : Type} {l : List α} (h : l.length = 1) : ∃ a, l = [a] := by
  match l, h with | [a], _ => exact ⟨a, rfl⟩
theorem bulk_bound {H : Type} {l : List (DataW H)} (hk : Go.Proofs.Ytpfjlifneibhfaa.Rows.uptoSmall H l = true) : bkl H l ≤ 1048576 := of_decide_eq_true hk
theorem i64wf {n : Int} (h : (Lit.int .i64 n).wf = true) : -9223372036854775808 ≤ n ∧ n ≤ 9223372036854775807 := by
  simpa [Lit.wf, IntKind.min, IntKind.max, IntKind.signed, IntKind.bits] using h
/-- No package variable is read. -/
theorem gtabW (W : World) : GRel W (Old W) := fun g cells h => by cases h
end Go.Proofs.Ytpfjlifneibhfaa.Y
