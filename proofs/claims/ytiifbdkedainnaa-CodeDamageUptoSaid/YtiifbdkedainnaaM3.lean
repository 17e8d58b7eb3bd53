/- Part 3 of the proofs of seat Ytiifbdkedainnaa: what the texts behind it lean on (abstract memory, walks of functions, plain laws). -/
import Derived.Test.YtiifbdkedainnaaM2
import Derived.Carry
import Derived.ChangeArms
import Derived.ChangeSame
import Derived.JoinedCond
import Derived.ProofKit
import Derived.OpenShut

set_option maxHeartbeats 8000000
set_option linter.unusedVariables false
set_option linter.unusedSimpArgs false
namespace Go.Proofs.Ytiifbdkedainnaa.Y
open Go.Proofs.Ytiifbdkedainnaa.AL Go.Proofs Go
attribute [local irreducible] AWP AWL AWG AWR AWE AWX AWO AWSeq AWSG AWSR AWSO AWSE AWSF GoodP OGW OGR OGE OGX PGW PGR PGE Wk AWLoop AWPD AWLD
theorem dr78_6_U13 : Drawn Try.prog 6 (regOps 6 ((Try.f78.body).getD .skip)) [13] [] [.win [0], .win [0], .win [0], .win [0], .win [0], .win [0], .win [0], .win [0], .win [0], .win [0], .win [0], .win [0], .win [0], .eff 0] 1 [] := ⟨rfl, by as_aux_lemma => kernel_rfl⟩
theorem dr78_7_U13 : Drawn Try.prog 7 (regOps 7 ((Try.f78.body).getD .skip)) [3, 13] [] [.win [0], .win [0], .win [0], .eff 0, .win [0, 1], .win [0, 1], .win [0, 1], .win [0, 1], .win [0, 1], .win [0, 1], .win [0, 1], .win [0, 1], .win [1], .eff 1] 2 [] := ⟨rfl, by as_aux_lemma => kernel_rfl⟩
theorem dr78_11_U13 : Drawn Try.prog 11 (regOps 11 ((Try.f78.body).getD .skip)) [4, 6] [] [.win [0, 1], .win [0], .win [0], .win [0], .eff 0, .win [1], .eff 1] 2 [] := ⟨rfl, by as_aux_lemma => kernel_rfl⟩

def outE (x : Int) (H : List AObj) : AOut := if x = 0 then .ret (.tup []) H else .pan (.pv (.sc (.iface 34 (.int .i64 x)))) H
theorem stmts_run (vs : List Un) (hvs : ∀ u ∈ vs, u.ok) : ∀ (N : Nat) (l : List St), totL l ≤ N → fineL l → ∀ (H0 : List AObj), ARun Try.prog 78 [chk vs, .rs 13 (l.map encS)] H0 (outE (stSL vs l) H0) := by
  intro N
  induction N with
  | zero =>
    intro l hN _ H0
    have hl : l = [] := by have := len_totL l; exact List.eq_nil_of_length_eq_zero (by omega)
    subst hl
    simp only [stSL, outE, if_true]
    (refine ARun.intro Try.func78 rfl Try.call78 Try.ntmps78 Try.results78 ?_; simp only [List.length_cons, List.length_nil, List.length_map, Nat.reduceAdd, Nat.reduceSub, List.replicate_succ, List.replicate_zero, List.cons_append, List.nil_append])
    (refine wk ?_; (repeat' first | exact True.intro | refine Lf.mk ?_ ?_); all_goals intro hP)
    refine awp_loop 1 ?_
    (have rr1 := dr78_6_U13; have rr2 := dr78_7_U13; have rr3 := dr78_11_U13; refine wk ?_; clear rr1 rr2 rr3; (repeat' first | exact True.intro | refine Lf.mk ?_ ?_); all_goals intro hP)
    (refine resX ?_; try exact True.intro)
  | succ N ihN =>
    intro l hN hF H0
    (refine ARun.intro Try.func78 rfl Try.call78 Try.ntmps78 Try.results78 ?_; simp only [List.length_cons, List.length_nil, List.length_map, Nat.reduceAdd, Nat.reduceSub, List.replicate_succ, List.replicate_zero, List.cons_append, List.nil_append])
    refine awp_len 1 rfl fun hlen => ?_
    rw [List.length_map] at hlen
    (refine wk ?_; (repeat' first | exact True.intro | refine Lf.mk ?_ ?_); all_goals intro hP)
    refine awp_loop_ind (σ := Nat) (fun s => l.length - s) (fun s => s ≤ l.length ∧ stSL vs l = stSL vs (l.drop s))
      (fun s => (chk vs :: .any :: .any :: .any :: .any :: .any :: .any :: .rs 13 (l.map encS) :: .i l.length :: .i s :: .any :: .any :: .any :: .any :: .any :: .any :: .any :: .any :: .any :: .any :: .any :: .any :: .any :: .any :: .any :: .any :: .any :: .any :: .any :: .any :: .any :: .any :: .any :: .any :: .any :: .any :: .any :: .any :: .any :: .any :: .any :: .any :: .any :: .any :: .any :: .any :: .any :: .any :: .any :: .any :: .any :: .any :: .any :: .any :: .any :: .any :: .any :: .any :: .any :: .any :: .any :: .any :: .any :: .any :: .any :: .any :: .any :: .any :: .any :: .any :: .any :: .any :: .any :: .any :: .any :: .any :: .any :: []))
      (fun s => H0) 0 ⟨Nat.zero_le _, by simp⟩ (by (refine fgtX ?_; try exact True.intro)) ?_
    rintro i ⟨h1, h4⟩
    cases hr : l.drop i with
    | nil =>
      have hlt := drop_nil hr
      rw [hr] at h4
      simp only [stSL] at h4
      rw [h4]
      simp only [outE, if_true]
      (have rr1 := dr78_6_U13; have rr2 := dr78_7_U13; have rr3 := dr78_11_U13; have ww1 := hlt; refine wk ?_; clear rr1 rr2 rr3 ww1; (repeat' first | exact True.intro | refine Lf.mk ?_ ?_); all_goals intro hP)
      (refine resX ?_; try exact True.intro)
    | cons k rest =>
      obtain ⟨hk, hlt, hd, hm⟩ := drop_cons hr
      have hfk := fineL_mem hF hm
      rw [fine_eq] at hfk
      have hmm := totL_mem hm
      rw [tot_eq] at hmm
      rw [hr] at h4
      simp only [stSL] at h4
      rw [stS_eq] at h4
      have ha := fun H0 => infer_run vs hvs k.a H0 (by omega)
      have hb0 := fun H0 => infer_run vs hvs k.b H0 (by omega)
      have ht := fun H0 => ihN k.thn (by omega) hfk.2.2.1 H0
      have he := fun H0 => ihN k.els (by omega) hfk.2.2.2 H0
      by_cases h1k : k.kind = 1
      · simp only [h1k, if_true] at h4
        by_cases hv0 : 0 ≤ k.var
        · simp only [hv0, if_true] at h4
          cases hv : vs[k.var.toNat]? with
          | none =>
            have hlv : ¬ k.var < vs.length := by rw [List.getElem?_eq_none_iff] at hv; omega
            simp only [hv] at h4
            simp only [show (1 : Int) ≠ 0 from by decide, if_false] at h4
            rw [h4]
            simp only [outE, show (1 : Int) ≠ 0 from by decide, if_false]
            repeat' (first | refine awp_seq ?_ | refine awp_block ?_ | refine awp_scope ?_ | ((first | refine awp_region_k fun Kn Kp hn hp => ?_ | show AWP _ _ (Code.region 6 _ true) _ _ _; refine awp_drawn_k (id := 6) [13] [13] [.win [0], .win [0], .win [0], .win [0], .win [0], .win [0], .win [0], .win [0], .win [0], .win [0], .win [0], .win [0], .win [0], .pan [0]] 1 rfl (by as_aux_lemma => kernel_rfl) fun Kn Kp hn hp => ?_ | show AWP _ _ (Code.region 7 _ true) _ _ _; refine awp_drawn_k (id := 7) [3, 13] [] [.win [0], .win [0], .win [0], .eff 0, .win [0, 1], .win [0, 1], .win [0, 1], .win [0, 1], .win [0, 1], .win [0, 1], .win [0, 1], .win [0, 1], .win [1], .eff 1] 2 rfl (by as_aux_lemma => kernel_rfl) fun Kn Kp hn hp => ?_ | show AWP _ _ (Code.region 11 _ true) _ _ _; refine awp_drawn_k (id := 11) [4, 6] [] [.win [0, 1], .win [0], .win [0], .win [0], .eff 0, .win [1], .eff 1] 2 rfl (by as_aux_lemma => kernel_rfl) fun Kn Kp hn hp => ?_ | refine oge_intro (by assumption) ?_ | (show AWE _ _ _ _ _ _ _ _ _; first | refine awe_intro (must_pan _ _) ?_) | (show AWSF _ _ _ _ _ _ _ _ _ _ _; first | refine awsf_intro (must_pan _ _) (fun hrun => ?_)) | (show OGE _ _ _ _ _ _ _; first | refine oge_intro (must_pan _ _) ?_) | (show AWSE _ _ _ _ _ _ _ _ _ _ _; first | refine awse_intro (must_pan _ _) (fun hrun => ?_)) | (show PGE _ _ _ _ _; first | refine pge_intro (must_pan _ _) (fun tm' => ?_))) <;> (simp only [go_sem, Nat.reduceAdd, Nat.reduceSub, Nat.reduceMul, Nat.reduceLeDiff, Nat.reduceLT, Nat.reduceEqDiff, Int.reduceToNat, Int.reduceAdd, Int.reduceMul, Int.reduceSub, Int.reduceLT, Int.reduceLE, Int.reduceEq, Int.reduceNeg, Int.reduceBEq, Int.reduceBNe, ↓reduceIte, reduceCtorEq, hlt, hk, encS_eq, h1k, hv0, hlv] <;> try simp (disch := omega) only [wrap_of])) | (refine hn _ _ ?_; clear hn hp Kn Kp) | (refine hp _ _ _ ?_; clear hn hp Kn Kp) | (refine awp_cond rfl (fun hb => ?_) (fun hb => ?_) <;> (try simp only [decide_eq_true_eq, decide_eq_false_iff_not, Bool.not_eq_true', Bool.not_eq_false', Bool.true_eq_false, Bool.false_eq_true, beq_iff_eq, bne_iff_ne, bne_eq_false_iff_eq, beq_eq_false_iff_ne, gt_iff_lt, ge_iff_le, Int.reduceEq, Int.reduceNe, Int.reduceLT, Int.reduceLE, ne_eq, not_true_eq_false, not_false_eq_true] at hb)) | ((first | refine awg_split (fun hb => ?_) (fun hb => ?_) | refine awsg_split (fun hb => ?_) (fun hb => ?_)) <;> have hb0 := hb <;> (try simp only [decide_eq_true_eq, decide_eq_false_iff_not, Bool.not_eq_true', Bool.not_eq_false', Bool.true_eq_false, Bool.false_eq_true, beq_iff_eq, bne_iff_ne, bne_eq_false_iff_eq, beq_eq_false_iff_ne, gt_iff_lt, ge_iff_le, Int.reduceEq, Int.reduceNe, Int.reduceLT, Int.reduceLE, ne_eq, not_true_eq_false, not_false_eq_true] at hb0) <;> (try simp only [beq_true, beq_false, Bool.not_eq_true', Bool.not_eq_false'] at hb) <;> (simp only [go_sem, Nat.reduceAdd, Nat.reduceSub, Nat.reduceMul, Nat.reduceLeDiff, Nat.reduceLT, Nat.reduceEqDiff, Int.reduceToNat, Int.reduceAdd, Int.reduceMul, Int.reduceSub, Int.reduceLT, Int.reduceLE, Int.reduceEq, Int.reduceNeg, Int.reduceBEq, Int.reduceBNe, ↓reduceIte, reduceCtorEq, hlt, hk, encS_eq, h1k, hv0, hlv, hb, hb0] <;> try simp (disch := omega) only [wrap_of])) | (refine And.intro ?_ ?_) | refine awp_skip ?_ | refine awp_ret ?_ | refine awp_exit ?_ | refine awp_label ?_ | refine awloop_step ?_ | fail)
            (refine panX ?_; try exact True.intro)
          | some w =>
            have hlv : k.var < vs.length := by have := (List.getElem?_eq_some_iff.1 hv).1; omega
            simp only [hv] at h4
            cases hi : inf vs k.a with
            | error x =>
              have hx := inf_err vs k.a x hi
              have hx0 : x ≠ 0 := by omega
              simp only [hi, hx0, if_false] at h4
              simp only [hi, outU] at ha
              rw [h4]
              simp only [outE, hx0, if_false]
              repeat' (first | refine awp_seq ?_ | refine awp_block ?_ | refine awp_scope ?_ | ((first | refine awp_region_k fun Kn Kp hn hp => ?_ | show AWP _ _ (Code.region 6 _ true) _ _ _; refine awp_drawn_k (id := 6) [13] [] [.win [0], .win [0], .win [0], .win [0], .win [0], .win [0], .win [0], .win [0], .win [0], .win [0], .win [0], .win [0], .win [0], .eff 0] 1 rfl (by as_aux_lemma => kernel_rfl) fun Kn Kp hn hp => ?_ | show AWP _ _ (Code.region 7 _ true) _ _ _; refine awp_drawn_k (id := 7) [3, 13] [3] [.win [0], .win [0], .win [0], .pan [0], .win [0, 1], .win [0, 1], .win [0, 1], .win [0, 1], .win [0, 1], .win [0, 1], .win [0, 1], .win [0, 1], .skip, .skip] 2 rfl (by as_aux_lemma => kernel_rfl) fun Kn Kp hn hp => ?_ | show AWP _ _ (Code.region 11 _ true) _ _ _; refine awp_drawn_k (id := 11) [4, 6] [] [.win [0, 1], .win [0], .win [0], .win [0], .eff 0, .win [1], .eff 1] 2 rfl (by as_aux_lemma => kernel_rfl) fun Kn Kp hn hp => ?_ | refine oge_intro (by assumption) ?_ | (show AWE _ _ _ _ _ _ _ _ _; first | refine awe_intro (must_run _ _) ?_ | refine awe_intro (ha _) ?_) | (show AWSF _ _ _ _ _ _ _ _ _ _ _; first | refine awsf_intro (must_run _ _) (fun hrun => ?_) | refine awsf_intro (ha _) (fun hrun => ?_)) | (show OGE _ _ _ _ _ _ _; first | refine oge_intro (must_run _ _) ?_ | refine oge_intro (ha _) ?_) | (show AWSE _ _ _ _ _ _ _ _ _ _ _; first | refine awse_intro (must_run _ _) (fun hrun => ?_) | refine awse_intro (ha _) (fun hrun => ?_)) | (show PGE _ _ _ _ _; first | refine pge_intro (must_run _ _) (fun tm' => ?_) | refine pge_intro (ha _) (fun tm' => ?_))) <;> (simp only [go_sem, Nat.reduceAdd, Nat.reduceSub, Nat.reduceMul, Nat.reduceLeDiff, Nat.reduceLT, Nat.reduceEqDiff, Int.reduceToNat, Int.reduceAdd, Int.reduceMul, Int.reduceSub, Int.reduceLT, Int.reduceLE, Int.reduceEq, Int.reduceNeg, Int.reduceBEq, Int.reduceBNe, ↓reduceIte, reduceCtorEq, hlt, hk, encS_eq, h1k, hv0, hlv, hv] <;> try simp (disch := omega) only [wrap_of])) | (refine hn _ _ ?_; clear hn hp Kn Kp) | (refine hp _ _ _ ?_; clear hn hp Kn Kp) | (refine awp_cond rfl (fun hb => ?_) (fun hb => ?_) <;> (try simp only [decide_eq_true_eq, decide_eq_false_iff_not, Bool.not_eq_true', Bool.not_eq_false', Bool.true_eq_false, Bool.false_eq_true, beq_iff_eq, bne_iff_ne, bne_eq_false_iff_eq, beq_eq_false_iff_ne, gt_iff_lt, ge_iff_le, Int.reduceEq, Int.reduceNe, Int.reduceLT, Int.reduceLE, ne_eq, not_true_eq_false, not_false_eq_true] at hb)) | ((first | refine awg_split (fun hb => ?_) (fun hb => ?_) | refine awsg_split (fun hb => ?_) (fun hb => ?_)) <;> have hb0 := hb <;> (try simp only [decide_eq_true_eq, decide_eq_false_iff_not, Bool.not_eq_true', Bool.not_eq_false', Bool.true_eq_false, Bool.false_eq_true, beq_iff_eq, bne_iff_ne, bne_eq_false_iff_eq, beq_eq_false_iff_ne, gt_iff_lt, ge_iff_le, Int.reduceEq, Int.reduceNe, Int.reduceLT, Int.reduceLE, ne_eq, not_true_eq_false, not_false_eq_true] at hb0) <;> (try simp only [beq_true, beq_false, Bool.not_eq_true', Bool.not_eq_false'] at hb) <;> (simp only [go_sem, Nat.reduceAdd, Nat.reduceSub, Nat.reduceMul, Nat.reduceLeDiff, Nat.reduceLT, Nat.reduceEqDiff, Int.reduceToNat, Int.reduceAdd, Int.reduceMul, Int.reduceSub, Int.reduceLT, Int.reduceLE, Int.reduceEq, Int.reduceNeg, Int.reduceBEq, Int.reduceBNe, ↓reduceIte, reduceCtorEq, hlt, hk, encS_eq, h1k, hv0, hlv, hv, hb, hb0] <;> try simp (disch := omega) only [wrap_of])) | (refine And.intro ?_ ?_) | refine awp_skip ?_ | refine awp_ret ?_ | refine awp_exit ?_ | refine awp_label ?_ | refine awloop_step ?_ | fail)
              (refine panX ?_; try exact True.intro)
            | ok u =>
              simp only [hi, outU] at ha
              simp only [hi] at h4
              by_cases huw : u = w
              · subst huw
                simp only [if_true] at h4
                (have rr1 := dr78_6_U13; have rr2 := dr78_7_U13; have rr3 := dr78_11_U13; have ww1 := hlt; have ww2 := hk; have ww3 := @encS_eq; have ww4 := h1k; have ww5 := hv0; have ww6 := hlv; have ww7 := hv; have ww8 := @eqg70; have cc1 := fun z1 z2 => must_run z1 z2; have cc2 := fun z1 => ha z1; refine wk ?_; clear rr1 rr2 rr3 ww1 ww2 ww3 ww4 ww5 ww6 ww7 ww8 cc1 cc2; (repeat' first | exact True.intro | refine Lf.mk ?_ ?_); all_goals intro hP)
                refine ⟨i + 1, by omega, ⟨by omega, by rw [hd]; exact h4⟩, ?_⟩
                (refine dropX ?_; try exact True.intro)
                all_goals simp [wrap_of (n := (i : Int) + 1) (by omega) (by omega)]
              · have hE := eqU u w
                rw [decide_eq_false huw] at hE
                simp only [huw, if_false, show (13 : Int) ≠ 0 from by decide] at h4
                rw [h4]
                simp only [outE, show (13 : Int) ≠ 0 from by decide, if_false]
                repeat' (first | refine awp_seq ?_ | refine awp_block ?_ | refine awp_scope ?_ | ((first | refine awp_region_k fun Kn Kp hn hp => ?_ | show AWP _ _ (Code.region 6 _ true) _ _ _; refine awp_drawn_k (id := 6) [13] [] [.win [0], .win [0], .win [0], .win [0], .win [0], .win [0], .win [0], .win [0], .win [0], .win [0], .win [0], .win [0], .win [0], .eff 0] 1 rfl (by as_aux_lemma => kernel_rfl) fun Kn Kp hn hp => ?_ | show AWP _ _ (Code.region 7 _ true) _ _ _; refine awp_drawn_k (id := 7) [3, 13] [13] [.win [0], .win [0], .win [0], .eff 0, .win [0, 1], .win [0, 1], .win [0, 1], .win [0, 1], .win [0, 1], .win [0, 1], .win [0, 1], .win [0, 1], .win [1], .pan [1]] 2 rfl (by as_aux_lemma => kernel_rfl) fun Kn Kp hn hp => ?_ | show AWP _ _ (Code.region 11 _ true) _ _ _; refine awp_drawn_k (id := 11) [4, 6] [] [.win [0, 1], .win [0], .win [0], .win [0], .eff 0, .win [1], .eff 1] 2 rfl (by as_aux_lemma => kernel_rfl) fun Kn Kp hn hp => ?_ | refine oge_intro (by assumption) ?_ | (show AWE _ _ _ _ _ _ _ _ _; first | refine awe_intro (must_run _ _) ?_ | refine awe_intro (must_pan _ _) ?_ | refine awe_intro (ha _) ?_) | (show AWSF _ _ _ _ _ _ _ _ _ _ _; first | refine awsf_intro (must_run _ _) (fun hrun => ?_) | refine awsf_intro (must_pan _ _) (fun hrun => ?_) | refine awsf_intro (ha _) (fun hrun => ?_)) | (show OGE _ _ _ _ _ _ _; first | refine oge_intro (must_run _ _) ?_ | refine oge_intro (must_pan _ _) ?_ | refine oge_intro (ha _) ?_) | (show AWSE _ _ _ _ _ _ _ _ _ _ _; first | refine awse_intro (must_run _ _) (fun hrun => ?_) | refine awse_intro (must_pan _ _) (fun hrun => ?_) | refine awse_intro (ha _) (fun hrun => ?_)) | (show PGE _ _ _ _ _; first | refine pge_intro (must_run _ _) (fun tm' => ?_) | refine pge_intro (must_pan _ _) (fun tm' => ?_) | refine pge_intro (ha _) (fun tm' => ?_))) <;> (simp only [go_sem, Nat.reduceAdd, Nat.reduceSub, Nat.reduceMul, Nat.reduceLeDiff, Nat.reduceLT, Nat.reduceEqDiff, Int.reduceToNat, Int.reduceAdd, Int.reduceMul, Int.reduceSub, Int.reduceLT, Int.reduceLE, Int.reduceEq, Int.reduceNeg, Int.reduceBEq, Int.reduceBNe, ↓reduceIte, reduceCtorEq, hlt, hk, encS_eq, h1k, hv0, hlv, hv, eqg70, hE] <;> try simp (disch := omega) only [wrap_of])) | (refine hn _ _ ?_; clear hn hp Kn Kp) | (refine hp _ _ _ ?_; clear hn hp Kn Kp) | (refine awp_cond rfl (fun hb => ?_) (fun hb => ?_) <;> (try simp only [decide_eq_true_eq, decide_eq_false_iff_not, Bool.not_eq_true', Bool.not_eq_false', Bool.true_eq_false, Bool.false_eq_true, beq_iff_eq, bne_iff_ne, bne_eq_false_iff_eq, beq_eq_false_iff_ne, gt_iff_lt, ge_iff_le, Int.reduceEq, Int.reduceNe, Int.reduceLT, Int.reduceLE, ne_eq, not_true_eq_false, not_false_eq_true] at hb)) | ((first | refine awg_split (fun hb => ?_) (fun hb => ?_) | refine awsg_split (fun hb => ?_) (fun hb => ?_)) <;> have hb0 := hb <;> (try simp only [decide_eq_true_eq, decide_eq_false_iff_not, Bool.not_eq_true', Bool.not_eq_false', Bool.true_eq_false, Bool.false_eq_true, beq_iff_eq, bne_iff_ne, bne_eq_false_iff_eq, beq_eq_false_iff_ne, gt_iff_lt, ge_iff_le, Int.reduceEq, Int.reduceNe, Int.reduceLT, Int.reduceLE, ne_eq, not_true_eq_false, not_false_eq_true] at hb0) <;> (try simp only [beq_true, beq_false, Bool.not_eq_true', Bool.not_eq_false'] at hb) <;> (simp only [go_sem, Nat.reduceAdd, Nat.reduceSub, Nat.reduceMul, Nat.reduceLeDiff, Nat.reduceLT, Nat.reduceEqDiff, Int.reduceToNat, Int.reduceAdd, Int.reduceMul, Int.reduceSub, Int.reduceLT, Int.reduceLE, Int.reduceEq, Int.reduceNeg, Int.reduceBEq, Int.reduceBNe, ↓reduceIte, reduceCtorEq, hlt, hk, encS_eq, h1k, hv0, hlv, hv, eqg70, hE, hb, hb0] <;> try simp (disch := omega) only [wrap_of])) | (refine And.intro ?_ ?_) | refine awp_skip ?_ | refine awp_ret ?_ | refine awp_exit ?_ | refine awp_label ?_ | refine awloop_step ?_ | fail)
                (refine panX ?_; try exact True.intro)
        · simp only [hv0, if_false, show (1 : Int) ≠ 0 from by decide] at h4
          rw [h4]
          simp only [outE, show (1 : Int) ≠ 0 from by decide, if_false]
          repeat' (first | refine awp_seq ?_ | refine awp_block ?_ | refine awp_scope ?_ | ((first | refine awp_region_k fun Kn Kp hn hp => ?_ | show AWP _ _ (Code.region 6 _ true) _ _ _; refine awp_drawn_k (id := 6) [13] [13] [.win [0], .win [0], .win [0], .win [0], .win [0], .win [0], .win [0], .win [0], .win [0], .win [0], .win [0], .win [0], .win [0], .pan [0]] 1 rfl (by as_aux_lemma => kernel_rfl) fun Kn Kp hn hp => ?_ | show AWP _ _ (Code.region 7 _ true) _ _ _; refine awp_drawn_k (id := 7) [3, 13] [] [.win [0], .win [0], .win [0], .eff 0, .win [0, 1], .win [0, 1], .win [0, 1], .win [0, 1], .win [0, 1], .win [0, 1], .win [0, 1], .win [0, 1], .win [1], .eff 1] 2 rfl (by as_aux_lemma => kernel_rfl) fun Kn Kp hn hp => ?_ | show AWP _ _ (Code.region 11 _ true) _ _ _; refine awp_drawn_k (id := 11) [4, 6] [] [.win [0, 1], .win [0], .win [0], .win [0], .eff 0, .win [1], .eff 1] 2 rfl (by as_aux_lemma => kernel_rfl) fun Kn Kp hn hp => ?_ | refine oge_intro (by assumption) ?_ | (show AWE _ _ _ _ _ _ _ _ _; first | refine awe_intro (must_pan _ _) ?_) | (show AWSF _ _ _ _ _ _ _ _ _ _ _; first | refine awsf_intro (must_pan _ _) (fun hrun => ?_)) | (show OGE _ _ _ _ _ _ _; first | refine oge_intro (must_pan _ _) ?_) | (show AWSE _ _ _ _ _ _ _ _ _ _ _; first | refine awse_intro (must_pan _ _) (fun hrun => ?_)) | (show PGE _ _ _ _ _; first | refine pge_intro (must_pan _ _) (fun tm' => ?_))) <;> (simp only [go_sem, Nat.reduceAdd, Nat.reduceSub, Nat.reduceMul, Nat.reduceLeDiff, Nat.reduceLT, Nat.reduceEqDiff, Int.reduceToNat, Int.reduceAdd, Int.reduceMul, Int.reduceSub, Int.reduceLT, Int.reduceLE, Int.reduceEq, Int.reduceNeg, Int.reduceBEq, Int.reduceBNe, ↓reduceIte, reduceCtorEq, hlt, hk, encS_eq, h1k, hv0] <;> try simp (disch := omega) only [wrap_of])) | (refine hn _ _ ?_; clear hn hp Kn Kp) | (refine hp _ _ _ ?_; clear hn hp Kn Kp) | (refine awp_cond rfl (fun hb => ?_) (fun hb => ?_) <;> (try simp only [decide_eq_true_eq, decide_eq_false_iff_not, Bool.not_eq_true', Bool.not_eq_false', Bool.true_eq_false, Bool.false_eq_true, beq_iff_eq, bne_iff_ne, bne_eq_false_iff_eq, beq_eq_false_iff_ne, gt_iff_lt, ge_iff_le, Int.reduceEq, Int.reduceNe, Int.reduceLT, Int.reduceLE, ne_eq, not_true_eq_false, not_false_eq_true] at hb)) | ((first | refine awg_split (fun hb => ?_) (fun hb => ?_) | refine awsg_split (fun hb => ?_) (fun hb => ?_)) <;> have hb0 := hb <;> (try simp only [decide_eq_true_eq, decide_eq_false_iff_not, Bool.not_eq_true', Bool.not_eq_false', Bool.true_eq_false, Bool.false_eq_true, beq_iff_eq, bne_iff_ne, bne_eq_false_iff_eq, beq_eq_false_iff_ne, gt_iff_lt, ge_iff_le, Int.reduceEq, Int.reduceNe, Int.reduceLT, Int.reduceLE, ne_eq, not_true_eq_false, not_false_eq_true] at hb0) <;> (try simp only [beq_true, beq_false, Bool.not_eq_true', Bool.not_eq_false'] at hb) <;> (simp only [go_sem, Nat.reduceAdd, Nat.reduceSub, Nat.reduceMul, Nat.reduceLeDiff, Nat.reduceLT, Nat.reduceEqDiff, Int.reduceToNat, Int.reduceAdd, Int.reduceMul, Int.reduceSub, Int.reduceLT, Int.reduceLE, Int.reduceEq, Int.reduceNeg, Int.reduceBEq, Int.reduceBNe, ↓reduceIte, reduceCtorEq, hlt, hk, encS_eq, h1k, hv0, hb, hb0] <;> try simp (disch := omega) only [wrap_of])) | (refine And.intro ?_ ?_) | refine awp_skip ?_ | refine awp_ret ?_ | refine awp_exit ?_ | refine awp_label ?_ | refine awloop_step ?_ | fail)
          (refine panX ?_; try exact True.intro)
      · have h1k' : (k.kind == 1) = false := by simpa using h1k
        simp only [h1k, if_false] at h4
        by_cases h2k : k.kind = 2
        · simp only [h2k, if_true] at h4
          by_cases hr16 : 1 ≤ k.rel ∧ k.rel ≤ 6
          · obtain ⟨hr1, hr6⟩ := hr16
            simp only [hr1, hr6, and_self, if_true] at h4
            cases hi : inf vs k.a with
            | error x =>
              have hx := inf_err vs k.a x hi
              have hx0 : x ≠ 0 := by omega
              simp only [hi, hx0, if_false] at h4
              simp only [hi, outU] at ha
              rw [h4]
              simp only [outE, hx0, if_false]
              (have rr1 := dr78_6_U13; have rr2 := dr78_7_U13; have rr3 := dr78_11_U13; have ww1 := hlt; have ww2 := hk; have ww3 := @encS_eq; have ww4 := h2k; have ww5 := hr1; have ww6 := hr6; have cc1 := fun z1 z2 => must_run z1 z2; have cc2 := fun z1 => ha z1; refine wk ?_; clear rr1 rr2 rr3 ww1 ww2 ww3 ww4 ww5 ww6 cc1 cc2; (repeat' first | exact True.intro | refine Lf.mk ?_ ?_); all_goals intro hP)
              (refine panX ?_; try exact True.intro)
            | ok u =>
              simp only [hi, outU] at ha
              simp only [hi] at h4
              cases hj : inf vs k.b with
              | error x =>
                have hx := inf_err vs k.b x hj
                have hx0 : x ≠ 0 := by omega
                simp only [hj, hx0, if_false] at h4
                simp only [hj, outU] at hb0
                rw [h4]
                simp only [outE, hx0, if_false]
                repeat' (first | refine awp_seq ?_ | refine awp_block ?_ | refine awp_scope ?_ | ((first | refine awp_region_k fun Kn Kp hn hp => ?_ | show AWP _ _ (Code.region 6 _ true) _ _ _; refine awp_drawn_k (id := 6) [13] [] [.win [0], .win [0], .win [0], .win [0], .win [0], .win [0], .win [0], .win [0], .win [0], .win [0], .win [0], .win [0], .win [0], .eff 0] 1 rfl (by as_aux_lemma => kernel_rfl) fun Kn Kp hn hp => ?_ | show AWP _ _ (Code.region 7 _ true) _ _ _; refine awp_drawn_k (id := 7) [3, 13] [] [.win [0], .win [0], .win [0], .eff 0, .win [0, 1], .win [0, 1], .win [0, 1], .win [0, 1], .win [0, 1], .win [0, 1], .win [0, 1], .win [0, 1], .win [1], .eff 1] 2 rfl (by as_aux_lemma => kernel_rfl) fun Kn Kp hn hp => ?_ | show AWP _ _ (Code.region 11 _ true) _ _ _; refine awp_drawn_k (id := 11) [4, 6] [4] [.win [0, 1], .win [0], .win [0], .win [0], .pan [0], .skip, .skip] 2 rfl (by as_aux_lemma => kernel_rfl) fun Kn Kp hn hp => ?_ | refine oge_intro (by assumption) ?_ | (show AWE _ _ _ _ _ _ _ _ _; first | refine awe_intro (must_run _ _) ?_ | refine awe_intro (ha _) ?_ | refine awe_intro (hb0 _) ?_) | (show AWSF _ _ _ _ _ _ _ _ _ _ _; first | refine awsf_intro (must_run _ _) (fun hrun => ?_) | refine awsf_intro (ha _) (fun hrun => ?_) | refine awsf_intro (hb0 _) (fun hrun => ?_)) | (show OGE _ _ _ _ _ _ _; first | refine oge_intro (must_run _ _) ?_ | refine oge_intro (ha _) ?_ | refine oge_intro (hb0 _) ?_) | (show AWSE _ _ _ _ _ _ _ _ _ _ _; first | refine awse_intro (must_run _ _) (fun hrun => ?_) | refine awse_intro (ha _) (fun hrun => ?_) | refine awse_intro (hb0 _) (fun hrun => ?_)) | (show PGE _ _ _ _ _; first | refine pge_intro (must_run _ _) (fun tm' => ?_) | refine pge_intro (ha _) (fun tm' => ?_) | refine pge_intro (hb0 _) (fun tm' => ?_))) <;> (simp only [go_sem, Nat.reduceAdd, Nat.reduceSub, Nat.reduceMul, Nat.reduceLeDiff, Nat.reduceLT, Nat.reduceEqDiff, Int.reduceToNat, Int.reduceAdd, Int.reduceMul, Int.reduceSub, Int.reduceLT, Int.reduceLE, Int.reduceEq, Int.reduceNeg, Int.reduceBEq, Int.reduceBNe, ↓reduceIte, reduceCtorEq, hlt, hk, encS_eq, h2k, hr1, hr6] <;> try simp (disch := omega) only [wrap_of])) | (refine hn _ _ ?_; clear hn hp Kn Kp) | (refine hp _ _ _ ?_; clear hn hp Kn Kp) | (refine awp_cond rfl (fun hb => ?_) (fun hb => ?_) <;> (try simp only [decide_eq_true_eq, decide_eq_false_iff_not, Bool.not_eq_true', Bool.not_eq_false', Bool.true_eq_false, Bool.false_eq_true, beq_iff_eq, bne_iff_ne, bne_eq_false_iff_eq, beq_eq_false_iff_ne, gt_iff_lt, ge_iff_le, Int.reduceEq, Int.reduceNe, Int.reduceLT, Int.reduceLE, ne_eq, not_true_eq_false, not_false_eq_true] at hb)) | ((first | refine awg_split (fun hb => ?_) (fun hb => ?_) | refine awsg_split (fun hb => ?_) (fun hb => ?_)) <;> have hb0 := hb <;> (try simp only [decide_eq_true_eq, decide_eq_false_iff_not, Bool.not_eq_true', Bool.not_eq_false', Bool.true_eq_false, Bool.false_eq_true, beq_iff_eq, bne_iff_ne, bne_eq_false_iff_eq, beq_eq_false_iff_ne, gt_iff_lt, ge_iff_le, Int.reduceEq, Int.reduceNe, Int.reduceLT, Int.reduceLE, ne_eq, not_true_eq_false, not_false_eq_true] at hb0) <;> (try simp only [beq_true, beq_false, Bool.not_eq_true', Bool.not_eq_false'] at hb) <;> (simp only [go_sem, Nat.reduceAdd, Nat.reduceSub, Nat.reduceMul, Nat.reduceLeDiff, Nat.reduceLT, Nat.reduceEqDiff, Int.reduceToNat, Int.reduceAdd, Int.reduceMul, Int.reduceSub, Int.reduceLT, Int.reduceLE, Int.reduceEq, Int.reduceNeg, Int.reduceBEq, Int.reduceBNe, ↓reduceIte, reduceCtorEq, hlt, hk, encS_eq, h2k, hr1, hr6, hb, hb0] <;> try simp (disch := omega) only [wrap_of])) | (refine And.intro ?_ ?_) | refine awp_skip ?_ | refine awp_ret ?_ | refine awp_exit ?_ | refine awp_label ?_ | refine awloop_step ?_ | fail)
                (refine panX ?_; try exact True.intro)
              | ok w =>
                simp only [hj, outU] at hb0
                simp only [hj] at h4
                by_cases huw : u = w
                · subst huw
                  simp only [if_true] at h4
                  by_cases hT : stSL vs k.thn = 0
                  · simp only [hT, if_true] at h4
                    simp only [outE, hT, if_true] at ht
                    by_cases hE : stSL vs k.els = 0
                    · simp only [hE, if_true] at h4
                      simp only [outE, hE, if_true] at he
                      (have rr1 := dr78_6_U13; have rr2 := dr78_7_U13; have rr3 := dr78_11_U13; have ww1 := hlt; have ww2 := hk; have ww3 := @encS_eq; have ww4 := h2k; have ww5 := hr1; have ww6 := hr6; have ww7 := @eqg70; have cc1 := fun z1 z2 => must_run z1 z2; have cc2 := fun z1 => ha z1; have cc3 := fun z1 => hb0 z1; have cc4 := fun z1 => ht z1; have cc5 := fun z1 => he z1; refine wk ?_; clear rr1 rr2 rr3 ww1 ww2 ww3 ww4 ww5 ww6 ww7 cc1 cc2 cc3 cc4 cc5; (repeat' first | exact True.intro | refine Lf.mk ?_ ?_); all_goals intro hP)
                      refine ⟨i + 1, by omega, ⟨by omega, by rw [hd]; exact h4⟩, ?_⟩
                      (refine dropX ?_; try exact True.intro)
                      all_goals simp [wrap_of (n := (i : Int) + 1) (by omega) (by omega)]
                    · simp only [hE, if_false] at h4
                      simp only [outE, hE, if_false] at he
                      rw [h4]
                      simp only [outE, hE, if_false]
                      (have rr1 := dr78_6_U13; have rr2 := dr78_7_U13; have rr3 := dr78_11_U13; have ww1 := hlt; have ww2 := hk; have ww3 := @encS_eq; have ww4 := h2k; have ww5 := hr1; have ww6 := hr6; have ww7 := @eqg70; have cc1 := fun z1 z2 => must_run z1 z2; have cc2 := fun z1 => ha z1; have cc3 := fun z1 => hb0 z1; have cc4 := fun z1 => ht z1; have cc5 := fun z1 => he z1; refine wk ?_; clear rr1 rr2 rr3 ww1 ww2 ww3 ww4 ww5 ww6 ww7 cc1 cc2 cc3 cc4 cc5; (repeat' first | exact True.intro | refine Lf.mk ?_ ?_); all_goals intro hP)
                      (refine panX ?_; try exact True.intro)
                  · simp only [hT, if_false] at h4
                    simp only [outE, hT, if_false] at ht
                    rw [h4]
                    simp only [outE, hT, if_false]
                    (have rr1 := dr78_6_U13; have rr2 := dr78_7_U13; have rr3 := dr78_11_U13; have ww1 := hlt; have ww2 := hk; have ww3 := @encS_eq; have ww4 := h2k; have ww5 := hr1; have ww6 := hr6; have ww7 := @eqg70; have cc1 := fun z1 z2 => must_run z1 z2; have cc2 := fun z1 => ha z1; have cc3 := fun z1 => hb0 z1; have cc4 := fun z1 => ht z1; refine wk ?_; clear rr1 rr2 rr3 ww1 ww2 ww3 ww4 ww5 ww6 ww7 cc1 cc2 cc3 cc4; (repeat' first | exact True.intro | refine Lf.mk ?_ ?_); all_goals intro hP)
                    (refine panX ?_; try exact True.intro)
                · have hE := eqU u w
                  rw [decide_eq_false huw] at hE
                  simp only [huw, if_false, show (13 : Int) ≠ 0 from by decide] at h4
                  rw [h4]
                  simp only [outE, show (13 : Int) ≠ 0 from by decide, if_false]
                  repeat' (first | refine awp_seq ?_ | refine awp_block ?_ | refine awp_scope ?_ | ((first | refine awp_region_k fun Kn Kp hn hp => ?_ | show AWP _ _ (Code.region 6 _ true) _ _ _; refine awp_drawn_k (id := 6) [13] [] [.win [0], .win [0], .win [0], .win [0], .win [0], .win [0], .win [0], .win [0], .win [0], .win [0], .win [0], .win [0], .win [0], .eff 0] 1 rfl (by as_aux_lemma => kernel_rfl) fun Kn Kp hn hp => ?_ | show AWP _ _ (Code.region 7 _ true) _ _ _; refine awp_drawn_k (id := 7) [3, 13] [] [.win [0], .win [0], .win [0], .eff 0, .win [0, 1], .win [0, 1], .win [0, 1], .win [0, 1], .win [0, 1], .win [0, 1], .win [0, 1], .win [0, 1], .win [1], .eff 1] 2 rfl (by as_aux_lemma => kernel_rfl) fun Kn Kp hn hp => ?_ | show AWP _ _ (Code.region 11 _ true) _ _ _; refine awp_drawn_k (id := 11) [4, 6] [6] [.win [0, 1], .win [0], .win [0], .win [0], .eff 0, .win [1], .pan [1]] 2 rfl (by as_aux_lemma => kernel_rfl) fun Kn Kp hn hp => ?_ | refine oge_intro (by assumption) ?_ | (show AWE _ _ _ _ _ _ _ _ _; first | refine awe_intro (must_run _ _) ?_ | refine awe_intro (must_pan _ _) ?_ | refine awe_intro (ha _) ?_ | refine awe_intro (hb0 _) ?_) | (show AWSF _ _ _ _ _ _ _ _ _ _ _; first | refine awsf_intro (must_run _ _) (fun hrun => ?_) | refine awsf_intro (must_pan _ _) (fun hrun => ?_) | refine awsf_intro (ha _) (fun hrun => ?_) | refine awsf_intro (hb0 _) (fun hrun => ?_)) | (show OGE _ _ _ _ _ _ _; first | refine oge_intro (must_run _ _) ?_ | refine oge_intro (must_pan _ _) ?_ | refine oge_intro (ha _) ?_ | refine oge_intro (hb0 _) ?_) | (show AWSE _ _ _ _ _ _ _ _ _ _ _; first | refine awse_intro (must_run _ _) (fun hrun => ?_) | refine awse_intro (must_pan _ _) (fun hrun => ?_) | refine awse_intro (ha _) (fun hrun => ?_) | refine awse_intro (hb0 _) (fun hrun => ?_)) | (show PGE _ _ _ _ _; first | refine pge_intro (must_run _ _) (fun tm' => ?_) | refine pge_intro (must_pan _ _) (fun tm' => ?_) | refine pge_intro (ha _) (fun tm' => ?_) | refine pge_intro (hb0 _) (fun tm' => ?_))) <;> (simp only [go_sem, Nat.reduceAdd, Nat.reduceSub, Nat.reduceMul, Nat.reduceLeDiff, Nat.reduceLT, Nat.reduceEqDiff, Int.reduceToNat, Int.reduceAdd, Int.reduceMul, Int.reduceSub, Int.reduceLT, Int.reduceLE, Int.reduceEq, Int.reduceNeg, Int.reduceBEq, Int.reduceBNe, ↓reduceIte, reduceCtorEq, hlt, hk, encS_eq, h2k, hr1, hr6, eqg70, hE] <;> try simp (disch := omega) only [wrap_of])) | (refine hn _ _ ?_; clear hn hp Kn Kp) | (refine hp _ _ _ ?_; clear hn hp Kn Kp) | (refine awp_cond rfl (fun hb => ?_) (fun hb => ?_) <;> (try simp only [decide_eq_true_eq, decide_eq_false_iff_not, Bool.not_eq_true', Bool.not_eq_false', Bool.true_eq_false, Bool.false_eq_true, beq_iff_eq, bne_iff_ne, bne_eq_false_iff_eq, beq_eq_false_iff_ne, gt_iff_lt, ge_iff_le, Int.reduceEq, Int.reduceNe, Int.reduceLT, Int.reduceLE, ne_eq, not_true_eq_false, not_false_eq_true] at hb)) | ((first | refine awg_split (fun hb => ?_) (fun hb => ?_) | refine awsg_split (fun hb => ?_) (fun hb => ?_)) <;> have hb0 := hb <;> (try simp only [decide_eq_true_eq, decide_eq_false_iff_not, Bool.not_eq_true', Bool.not_eq_false', Bool.true_eq_false, Bool.false_eq_true, beq_iff_eq, bne_iff_ne, bne_eq_false_iff_eq, beq_eq_false_iff_ne, gt_iff_lt, ge_iff_le, Int.reduceEq, Int.reduceNe, Int.reduceLT, Int.reduceLE, ne_eq, not_true_eq_false, not_false_eq_true] at hb0) <;> (try simp only [beq_true, beq_false, Bool.not_eq_true', Bool.not_eq_false'] at hb) <;> (simp only [go_sem, Nat.reduceAdd, Nat.reduceSub, Nat.reduceMul, Nat.reduceLeDiff, Nat.reduceLT, Nat.reduceEqDiff, Int.reduceToNat, Int.reduceAdd, Int.reduceMul, Int.reduceSub, Int.reduceLT, Int.reduceLE, Int.reduceEq, Int.reduceNeg, Int.reduceBEq, Int.reduceBNe, ↓reduceIte, reduceCtorEq, hlt, hk, encS_eq, h2k, hr1, hr6, eqg70, hE, hb, hb0] <;> try simp (disch := omega) only [wrap_of])) | (refine And.intro ?_ ?_) | refine awp_skip ?_ | refine awp_ret ?_ | refine awp_exit ?_ | refine awp_label ?_ | refine awloop_step ?_ | fail)
                  (refine panX ?_; try exact True.intro)
          · simp only [hr16, if_false, show (1 : Int) ≠ 0 from by decide] at h4
            rw [h4]
            simp only [outE, show (1 : Int) ≠ 0 from by decide, if_false]
            repeat' (first | refine awp_seq ?_ | refine awp_block ?_ | refine awp_scope ?_ | ((first | refine awp_region_k fun Kn Kp hn hp => ?_ | show AWP _ _ (Code.region 6 _ true) _ _ _; refine awp_drawn_k (id := 6) [13] [] [.win [0], .win [0], .win [0], .win [0], .win [0], .win [0], .win [0], .win [0], .win [0], .win [0], .win [0], .win [0], .win [0], .eff 0] 1 rfl (by as_aux_lemma => kernel_rfl) fun Kn Kp hn hp => ?_ | show AWP _ _ (Code.region 7 _ true) _ _ _; refine awp_drawn_k (id := 7) [3, 13] [] [.win [0], .win [0], .win [0], .eff 0, .win [0, 1], .win [0, 1], .win [0, 1], .win [0, 1], .win [0, 1], .win [0, 1], .win [0, 1], .win [0, 1], .win [1], .eff 1] 2 rfl (by as_aux_lemma => kernel_rfl) fun Kn Kp hn hp => ?_ | show AWP _ _ (Code.region 11 _ true) _ _ _; refine awp_drawn_k (id := 11) [4, 6] [] [.win [0, 1], .win [0], .win [0], .win [0], .eff 0, .win [1], .eff 1] 2 rfl (by as_aux_lemma => kernel_rfl) fun Kn Kp hn hp => ?_ | refine oge_intro (by assumption) ?_) <;> (simp only [go_sem, Nat.reduceAdd, Nat.reduceSub, Nat.reduceMul, Nat.reduceLeDiff, Nat.reduceLT, Nat.reduceEqDiff, Int.reduceToNat, Int.reduceAdd, Int.reduceMul, Int.reduceSub, Int.reduceLT, Int.reduceLE, Int.reduceEq, Int.reduceNeg, Int.reduceBEq, Int.reduceBNe, ↓reduceIte, reduceCtorEq, hlt, hk, encS_eq, h2k] <;> try simp (disch := omega) only [wrap_of])) | (refine hn _ _ ?_; clear hn hp Kn Kp) | (refine hp _ _ _ ?_; clear hn hp Kn Kp) | (refine awp_cond rfl (fun hb => ?_) (fun hb => ?_) <;> (try simp only [decide_eq_true_eq, decide_eq_false_iff_not, Bool.not_eq_true', Bool.not_eq_false', Bool.true_eq_false, Bool.false_eq_true, beq_iff_eq, bne_iff_ne, bne_eq_false_iff_eq, beq_eq_false_iff_ne, gt_iff_lt, ge_iff_le, Int.reduceEq, Int.reduceNe, Int.reduceLT, Int.reduceLE, ne_eq, not_true_eq_false, not_false_eq_true] at hb)) | ((first | refine awg_split (fun hb => ?_) (fun hb => ?_) | refine awsg_split (fun hb => ?_) (fun hb => ?_) | refine awe_cases (must_c _ _ _) (fun hb => ?_) (fun hb => ?_)) <;> have hb0 := hb <;> (try simp only [decide_eq_true_eq, decide_eq_false_iff_not, Bool.not_eq_true', Bool.not_eq_false', Bool.true_eq_false, Bool.false_eq_true, beq_iff_eq, bne_iff_ne, bne_eq_false_iff_eq, beq_eq_false_iff_ne, gt_iff_lt, ge_iff_le, Int.reduceEq, Int.reduceNe, Int.reduceLT, Int.reduceLE, ne_eq, not_true_eq_false, not_false_eq_true] at hb0) <;> (try simp only [beq_true, beq_false, Bool.not_eq_true', Bool.not_eq_false'] at hb) <;> (simp only [go_sem, Nat.reduceAdd, Nat.reduceSub, Nat.reduceMul, Nat.reduceLeDiff, Nat.reduceLT, Nat.reduceEqDiff, Int.reduceToNat, Int.reduceAdd, Int.reduceMul, Int.reduceSub, Int.reduceLT, Int.reduceLE, Int.reduceEq, Int.reduceNeg, Int.reduceBEq, Int.reduceBNe, ↓reduceIte, reduceCtorEq, hlt, hk, encS_eq, h2k, hb, hb0] <;> try simp (disch := omega) only [wrap_of])) | (refine And.intro ?_ ?_) | refine awp_skip ?_ | refine awp_ret ?_ | refine awp_exit ?_ | refine awp_label ?_ | refine awloop_step ?_ | fail)
            all_goals first
              | omega
              | ((refine panX ?_; try exact True.intro))
        · have h2k' : (k.kind == 2) = false := by simpa using h2k
          simp only [h2k, if_false, show (1 : Int) ≠ 0 from by decide] at h4
          rw [h4]
          simp only [outE, show (1 : Int) ≠ 0 from by decide, if_false]
          (have rr1 := dr78_6_U13; have rr2 := dr78_7_U13; have rr3 := dr78_11_U13; have ww1 := hlt; have ww2 := hk; have ww3 := @encS_eq; have ww4 := h1k'; have ww5 := h2k'; refine wk ?_; clear rr1 rr2 rr3 ww1 ww2 ww3 ww4 ww5; (repeat' first | exact True.intro | refine Lf.mk ?_ ?_); all_goals intro hP)
          (refine panX ?_; try exact True.intro)
end Go.Proofs.Ytiifbdkedainnaa.Y

set_option maxHeartbeats 8000000
set_option linter.unusedVariables false
set_option linter.unusedSimpArgs false
namespace Go.Proofs.Ytiifbdkedainnaa.Y
open Go.Proofs.Ytiifbdkedainnaa.AL Go.Proofs Go
attribute [local irreducible] AWP AWL AWG AWR AWE AWX AWO AWSeq AWSG AWSR AWSO AWSE AWSF GoodP OGW OGR OGE OGX PGW PGR PGE Wk AWLoop AWPD AWLD

theorem handler_run (vs : List Un) (hvs : ∀ u ∈ vs, u.ok) (l : List St) (hM : manyL l ≤ 900000) (hF : fineL l) (H0 : List AObj) : ARun Try.prog 62 [chk vs, .rs 13 (l.map encS)] H0 (.ret (.i (handS vs l)) H0) := by
  have hc := fun H0 => countS_run (manyL l) l (Nat.le_refl _) (by omega) 100 H0 (by omega) (by omega)
  have hcm := cntSL_many l 100 (by omega)
  have hs := fun H0 => small_run (manyL l) l (Nat.le_refl _) hM hF H0
  have ht := fun H0 => stmts_run vs hvs (totL l) l (Nat.le_refl _) hF H0
  unfold handS
  by_cases h100 : 100 < manyL l
  · have hle : ¬ cntSL l 100 0 ≤ 100 := by have := hcm.2 (by omega); omega
    simp only [h100, if_true]
    (refine ARun.introD Try.func62 rfl Try.call62 Try.ntmps62 Try.results62 ?_; simp only [List.length_cons, List.length_nil, List.length_map, Nat.reduceAdd, Nat.reduceSub, List.replicate_succ, List.replicate_zero, List.cons_append, List.nil_append])
    repeat' (first | refine awpd_seq ?_ | refine awp_block ?_ | (refine awpd_defer (id := 1) ?_; simp only [AWLD, go_sem, Nat.reduceAdd, Nat.reduceSub, Nat.reduceMul, Nat.reduceLeDiff, Nat.reduceLT, Nat.reduceEqDiff, Int.reduceToNat, Int.reduceAdd, Int.reduceMul, Int.reduceSub, Int.reduceLT, Int.reduceLE, Int.reduceEq, Int.reduceNeg, Int.reduceBEq, Int.reduceBNe, ↓reduceIte, reduceCtorEq, hle]) | ((first | refine awpd_region_k fun Kn Kp hn hp => ?_ | refine oge_intro (by assumption) ?_ | (show AWE _ _ _ _ _ _ _ _ _; first | refine awe_intro (hc _) ?_ | refine awe_intro (must_pan _ _) ?_) | (show AWSF _ _ _ _ _ _ _ _ _ _ _; first | refine awsf_intro (hc _) (fun hrun => ?_) | refine awsf_intro (must_pan _ _) (fun hrun => ?_)) | (show OGE _ _ _ _ _ _ _; first | refine oge_intro (hc _) ?_ | refine oge_intro (must_pan _ _) ?_) | (show AWSE _ _ _ _ _ _ _ _ _ _ _; first | refine awse_intro (hc _) (fun hrun => ?_) | refine awse_intro (must_pan _ _) (fun hrun => ?_)) | (show PGE _ _ _ _ _; first | refine pge_intro (hc _) (fun tm' => ?_) | refine pge_intro (must_pan _ _) (fun tm' => ?_))) <;> (simp only [go_sem, Nat.reduceAdd, Nat.reduceSub, Nat.reduceMul, Nat.reduceLeDiff, Nat.reduceLT, Nat.reduceEqDiff, Int.reduceToNat, Int.reduceAdd, Int.reduceMul, Int.reduceSub, Int.reduceLT, Int.reduceLE, Int.reduceEq, Int.reduceNeg, Int.reduceBEq, Int.reduceBNe, ↓reduceIte, reduceCtorEq, hle] <;> try simp (disch := omega) only [wrap_of])) | (refine hn _ _ ?_; clear hn hp Kn Kp) | (refine hp _ _ _ ?_; clear hn hp Kn Kp) | (refine awpd_cond rfl (fun hb => ?_) (fun hb => ?_) <;> (try simp only [decide_eq_true_eq, decide_eq_false_iff_not, Bool.not_eq_true', Bool.not_eq_false', Bool.true_eq_false, Bool.false_eq_true, beq_iff_eq, bne_iff_ne, bne_eq_false_iff_eq, beq_eq_false_iff_ne, gt_iff_lt, ge_iff_le, Int.reduceEq, Int.reduceNe, Int.reduceLT, Int.reduceLE, ne_eq, not_true_eq_false, not_false_eq_true] at hb)) | ((first | refine awg_split (fun hb => ?_) (fun hb => ?_) | refine awsg_split (fun hb => ?_) (fun hb => ?_)) <;> have hb0 := hb <;> (try simp only [decide_eq_true_eq, decide_eq_false_iff_not, Bool.not_eq_true', Bool.not_eq_false', Bool.true_eq_false, Bool.false_eq_true, beq_iff_eq, bne_iff_ne, bne_eq_false_iff_eq, beq_eq_false_iff_ne, gt_iff_lt, ge_iff_le, Int.reduceEq, Int.reduceNe, Int.reduceLT, Int.reduceLE, ne_eq, not_true_eq_false, not_false_eq_true] at hb0) <;> (try simp only [beq_true, beq_false, Bool.not_eq_true', Bool.not_eq_false'] at hb) <;> (simp only [go_sem, Nat.reduceAdd, Nat.reduceSub, Nat.reduceMul, Nat.reduceLeDiff, Nat.reduceLT, Nat.reduceEqDiff, Int.reduceToNat, Int.reduceAdd, Int.reduceMul, Int.reduceSub, Int.reduceLT, Int.reduceLE, Int.reduceEq, Int.reduceNeg, Int.reduceBEq, Int.reduceBNe, ↓reduceIte, reduceCtorEq, hle, hb, hb0] <;> try simp (disch := omega) only [wrap_of])) | (refine And.intro ?_ ?_) | refine awpd_ret ?_ | refine awpd_skip ?_ | refine awloop_step ?_ | fail)
    refine ⟨_, caught_pan _ _ 2 0 (getO0 _ _ _), ?_⟩
    ((try simp only [go_sem, Nat.reduceAdd, Nat.reduceSub, Nat.reduceMul, Nat.reduceLeDiff, Nat.reduceLT, Nat.reduceEqDiff, Int.reduceToNat, Int.reduceAdd, Int.reduceMul, Int.reduceSub, Int.reduceLT, Int.reduceLE, Int.reduceEq, Int.reduceNeg, Int.reduceBEq, Int.reduceBNe, ↓reduceIte, reduceCtorEq]); (first | refine ⟨_, rfl, _, rfl, Fin.pure0 0 ?_⟩ | refine ⟨_, rfl, _, rfl, Fin.pure 1 ?_⟩); simp only [AV.low, List.map_cons, List.map_nil, aOne, aev, List.getElem?_cons_zero, List.getElem?_cons_succ, Option.getD_some, List.length_append, List.length_cons, List.length_nil, Nat.lt_irrefl, if_false]; try rfl)
  · have hle : cntSL l 100 0 ≤ 100 := by rw [hcm.1 (by omega)]; omega
    simp only [h100, if_false]
    cases hS : smSL l with
    | false =>
      simp only [hS, outB] at hs
      simp only [Bool.false_eq_true, if_false]
      (refine ARun.introD Try.func62 rfl Try.call62 Try.ntmps62 Try.results62 ?_; simp only [List.length_cons, List.length_nil, List.length_map, Nat.reduceAdd, Nat.reduceSub, List.replicate_succ, List.replicate_zero, List.cons_append, List.nil_append])
      repeat' (first | refine awpd_seq ?_ | refine awp_block ?_ | (refine awpd_defer (id := 1) ?_; simp only [AWLD, go_sem, Nat.reduceAdd, Nat.reduceSub, Nat.reduceMul, Nat.reduceLeDiff, Nat.reduceLT, Nat.reduceEqDiff, Int.reduceToNat, Int.reduceAdd, Int.reduceMul, Int.reduceSub, Int.reduceLT, Int.reduceLE, Int.reduceEq, Int.reduceNeg, Int.reduceBEq, Int.reduceBNe, ↓reduceIte, reduceCtorEq, hle]) | ((first | refine awpd_region_k fun Kn Kp hn hp => ?_ | refine oge_intro (by assumption) ?_ | (show AWE _ _ _ _ _ _ _ _ _; first | refine awe_intro (hc _) ?_ | refine awe_intro (must_run _ _) ?_ | refine awe_intro (hs _) ?_) | (show AWSF _ _ _ _ _ _ _ _ _ _ _; first | refine awsf_intro (hc _) (fun hrun => ?_) | refine awsf_intro (must_run _ _) (fun hrun => ?_) | refine awsf_intro (hs _) (fun hrun => ?_)) | (show OGE _ _ _ _ _ _ _; first | refine oge_intro (hc _) ?_ | refine oge_intro (must_run _ _) ?_ | refine oge_intro (hs _) ?_) | (show AWSE _ _ _ _ _ _ _ _ _ _ _; first | refine awse_intro (hc _) (fun hrun => ?_) | refine awse_intro (must_run _ _) (fun hrun => ?_) | refine awse_intro (hs _) (fun hrun => ?_)) | (show PGE _ _ _ _ _; first | refine pge_intro (hc _) (fun tm' => ?_) | refine pge_intro (must_run _ _) (fun tm' => ?_) | refine pge_intro (hs _) (fun tm' => ?_))) <;> (simp only [go_sem, Nat.reduceAdd, Nat.reduceSub, Nat.reduceMul, Nat.reduceLeDiff, Nat.reduceLT, Nat.reduceEqDiff, Int.reduceToNat, Int.reduceAdd, Int.reduceMul, Int.reduceSub, Int.reduceLT, Int.reduceLE, Int.reduceEq, Int.reduceNeg, Int.reduceBEq, Int.reduceBNe, ↓reduceIte, reduceCtorEq, hle] <;> try simp (disch := omega) only [wrap_of])) | (refine hn _ _ ?_; clear hn hp Kn Kp) | (refine hp _ _ _ ?_; clear hn hp Kn Kp) | (refine awpd_cond rfl (fun hb => ?_) (fun hb => ?_) <;> (try simp only [decide_eq_true_eq, decide_eq_false_iff_not, Bool.not_eq_true', Bool.not_eq_false', Bool.true_eq_false, Bool.false_eq_true, beq_iff_eq, bne_iff_ne, bne_eq_false_iff_eq, beq_eq_false_iff_ne, gt_iff_lt, ge_iff_le, Int.reduceEq, Int.reduceNe, Int.reduceLT, Int.reduceLE, ne_eq, not_true_eq_false, not_false_eq_true] at hb)) | ((first | refine awg_split (fun hb => ?_) (fun hb => ?_) | refine awsg_split (fun hb => ?_) (fun hb => ?_)) <;> have hb0 := hb <;> (try simp only [decide_eq_true_eq, decide_eq_false_iff_not, Bool.not_eq_true', Bool.not_eq_false', Bool.true_eq_false, Bool.false_eq_true, beq_iff_eq, bne_iff_ne, bne_eq_false_iff_eq, beq_eq_false_iff_ne, gt_iff_lt, ge_iff_le, Int.reduceEq, Int.reduceNe, Int.reduceLT, Int.reduceLE, ne_eq, not_true_eq_false, not_false_eq_true] at hb0) <;> (try simp only [beq_true, beq_false, Bool.not_eq_true', Bool.not_eq_false'] at hb) <;> (simp only [go_sem, Nat.reduceAdd, Nat.reduceSub, Nat.reduceMul, Nat.reduceLeDiff, Nat.reduceLT, Nat.reduceEqDiff, Int.reduceToNat, Int.reduceAdd, Int.reduceMul, Int.reduceSub, Int.reduceLT, Int.reduceLE, Int.reduceEq, Int.reduceNeg, Int.reduceBEq, Int.reduceBNe, ↓reduceIte, reduceCtorEq, hle, hb, hb0] <;> try simp (disch := omega) only [wrap_of])) | (refine And.intro ?_ ?_) | refine awpd_ret ?_ | refine awpd_skip ?_ | refine awloop_step ?_ | fail)
      refine ⟨_, caught_pan _ _ 2 0 (getO0 _ _ _), ?_⟩
      ((try simp only [go_sem, Nat.reduceAdd, Nat.reduceSub, Nat.reduceMul, Nat.reduceLeDiff, Nat.reduceLT, Nat.reduceEqDiff, Int.reduceToNat, Int.reduceAdd, Int.reduceMul, Int.reduceSub, Int.reduceLT, Int.reduceLE, Int.reduceEq, Int.reduceNeg, Int.reduceBEq, Int.reduceBNe, ↓reduceIte, reduceCtorEq]); (first | refine ⟨_, rfl, _, rfl, Fin.pure0 0 ?_⟩ | refine ⟨_, rfl, _, rfl, Fin.pure 1 ?_⟩); simp only [AV.low, List.map_cons, List.map_nil, aOne, aev, List.getElem?_cons_zero, List.getElem?_cons_succ, Option.getD_some, List.length_append, List.length_cons, List.length_nil, Nat.lt_irrefl, if_false]; try rfl)
    | true =>
      simp only [hS, outB] at hs
      simp only [if_true]
      by_cases hT : stSL vs l = 0
      · simp only [outE, hT, if_true] at ht
        rw [hT]
        (refine ARun.introD Try.func62 rfl Try.call62 Try.ntmps62 Try.results62 ?_; simp only [List.length_cons, List.length_nil, List.length_map, Nat.reduceAdd, Nat.reduceSub, List.replicate_succ, List.replicate_zero, List.cons_append, List.nil_append])
        repeat' (first | refine awpd_seq ?_ | refine awp_block ?_ | (refine awpd_defer (id := 1) ?_; simp only [AWLD, go_sem, Nat.reduceAdd, Nat.reduceSub, Nat.reduceMul, Nat.reduceLeDiff, Nat.reduceLT, Nat.reduceEqDiff, Int.reduceToNat, Int.reduceAdd, Int.reduceMul, Int.reduceSub, Int.reduceLT, Int.reduceLE, Int.reduceEq, Int.reduceNeg, Int.reduceBEq, Int.reduceBNe, ↓reduceIte, reduceCtorEq, hle]) | ((first | refine awpd_region_k fun Kn Kp hn hp => ?_ | refine oge_intro (by assumption) ?_ | (show AWE _ _ _ _ _ _ _ _ _; first | refine awe_intro (hc _) ?_ | refine awe_intro (must_run _ _) ?_ | refine awe_intro (hs _) ?_ | refine awe_intro (ht _) ?_) | (show AWSF _ _ _ _ _ _ _ _ _ _ _; first | refine awsf_intro (hc _) (fun hrun => ?_) | refine awsf_intro (must_run _ _) (fun hrun => ?_) | refine awsf_intro (hs _) (fun hrun => ?_) | refine awsf_intro (ht _) (fun hrun => ?_)) | (show OGE _ _ _ _ _ _ _; first | refine oge_intro (hc _) ?_ | refine oge_intro (must_run _ _) ?_ | refine oge_intro (hs _) ?_ | refine oge_intro (ht _) ?_) | (show AWSE _ _ _ _ _ _ _ _ _ _ _; first | refine awse_intro (hc _) (fun hrun => ?_) | refine awse_intro (must_run _ _) (fun hrun => ?_) | refine awse_intro (hs _) (fun hrun => ?_) | refine awse_intro (ht _) (fun hrun => ?_)) | (show PGE _ _ _ _ _; first | refine pge_intro (hc _) (fun tm' => ?_) | refine pge_intro (must_run _ _) (fun tm' => ?_) | refine pge_intro (hs _) (fun tm' => ?_) | refine pge_intro (ht _) (fun tm' => ?_))) <;> (simp only [go_sem, Nat.reduceAdd, Nat.reduceSub, Nat.reduceMul, Nat.reduceLeDiff, Nat.reduceLT, Nat.reduceEqDiff, Int.reduceToNat, Int.reduceAdd, Int.reduceMul, Int.reduceSub, Int.reduceLT, Int.reduceLE, Int.reduceEq, Int.reduceNeg, Int.reduceBEq, Int.reduceBNe, ↓reduceIte, reduceCtorEq, hle] <;> try simp (disch := omega) only [wrap_of])) | (refine hn _ _ ?_; clear hn hp Kn Kp) | (refine hp _ _ _ ?_; clear hn hp Kn Kp) | (refine awpd_cond rfl (fun hb => ?_) (fun hb => ?_) <;> (try simp only [decide_eq_true_eq, decide_eq_false_iff_not, Bool.not_eq_true', Bool.not_eq_false', Bool.true_eq_false, Bool.false_eq_true, beq_iff_eq, bne_iff_ne, bne_eq_false_iff_eq, beq_eq_false_iff_ne, gt_iff_lt, ge_iff_le, Int.reduceEq, Int.reduceNe, Int.reduceLT, Int.reduceLE, ne_eq, not_true_eq_false, not_false_eq_true] at hb)) | ((first | refine awg_split (fun hb => ?_) (fun hb => ?_) | refine awsg_split (fun hb => ?_) (fun hb => ?_)) <;> have hb0 := hb <;> (try simp only [decide_eq_true_eq, decide_eq_false_iff_not, Bool.not_eq_true', Bool.not_eq_false', Bool.true_eq_false, Bool.false_eq_true, beq_iff_eq, bne_iff_ne, bne_eq_false_iff_eq, beq_eq_false_iff_ne, gt_iff_lt, ge_iff_le, Int.reduceEq, Int.reduceNe, Int.reduceLT, Int.reduceLE, ne_eq, not_true_eq_false, not_false_eq_true] at hb0) <;> (try simp only [beq_true, beq_false, Bool.not_eq_true', Bool.not_eq_false'] at hb) <;> (simp only [go_sem, Nat.reduceAdd, Nat.reduceSub, Nat.reduceMul, Nat.reduceLeDiff, Nat.reduceLT, Nat.reduceEqDiff, Int.reduceToNat, Int.reduceAdd, Int.reduceMul, Int.reduceSub, Int.reduceLT, Int.reduceLE, Int.reduceEq, Int.reduceNeg, Int.reduceBEq, Int.reduceBNe, ↓reduceIte, reduceCtorEq, hle, hb, hb0] <;> try simp (disch := omega) only [wrap_of])) | (refine And.intro ?_ ?_) | refine awpd_ret ?_ | refine awpd_skip ?_ | refine awloop_step ?_ | fail)
        refine ⟨_, caught_none _ _, ?_⟩
        ((try simp only [go_sem, Nat.reduceAdd, Nat.reduceSub, Nat.reduceMul, Nat.reduceLeDiff, Nat.reduceLT, Nat.reduceEqDiff, Int.reduceToNat, Int.reduceAdd, Int.reduceMul, Int.reduceSub, Int.reduceLT, Int.reduceLE, Int.reduceEq, Int.reduceNeg, Int.reduceBEq, Int.reduceBNe, ↓reduceIte, reduceCtorEq]); (first | refine ⟨_, rfl, _, rfl, Fin.pure0 0 ?_⟩ | refine ⟨_, rfl, _, rfl, Fin.pure 1 ?_⟩); simp only [AV.low, List.map_cons, List.map_nil, aOne, aev, List.getElem?_cons_zero, List.getElem?_cons_succ, Option.getD_some, List.length_append, List.length_cons, List.length_nil, Nat.lt_irrefl, if_false]; try rfl)
      · simp only [outE, hT, if_false] at ht
        (refine ARun.introD Try.func62 rfl Try.call62 Try.ntmps62 Try.results62 ?_; simp only [List.length_cons, List.length_nil, List.length_map, Nat.reduceAdd, Nat.reduceSub, List.replicate_succ, List.replicate_zero, List.cons_append, List.nil_append])
        repeat' (first | refine awpd_seq ?_ | refine awp_block ?_ | (refine awpd_defer (id := 1) ?_; simp only [AWLD, go_sem, Nat.reduceAdd, Nat.reduceSub, Nat.reduceMul, Nat.reduceLeDiff, Nat.reduceLT, Nat.reduceEqDiff, Int.reduceToNat, Int.reduceAdd, Int.reduceMul, Int.reduceSub, Int.reduceLT, Int.reduceLE, Int.reduceEq, Int.reduceNeg, Int.reduceBEq, Int.reduceBNe, ↓reduceIte, reduceCtorEq, hle]) | ((first | refine awpd_region_k fun Kn Kp hn hp => ?_ | refine oge_intro (by assumption) ?_ | (show AWE _ _ _ _ _ _ _ _ _; first | refine awe_intro (hc _) ?_ | refine awe_intro (must_run _ _) ?_ | refine awe_intro (hs _) ?_ | refine awe_intro (ht _) ?_) | (show AWSF _ _ _ _ _ _ _ _ _ _ _; first | refine awsf_intro (hc _) (fun hrun => ?_) | refine awsf_intro (must_run _ _) (fun hrun => ?_) | refine awsf_intro (hs _) (fun hrun => ?_) | refine awsf_intro (ht _) (fun hrun => ?_)) | (show OGE _ _ _ _ _ _ _; first | refine oge_intro (hc _) ?_ | refine oge_intro (must_run _ _) ?_ | refine oge_intro (hs _) ?_ | refine oge_intro (ht _) ?_) | (show AWSE _ _ _ _ _ _ _ _ _ _ _; first | refine awse_intro (hc _) (fun hrun => ?_) | refine awse_intro (must_run _ _) (fun hrun => ?_) | refine awse_intro (hs _) (fun hrun => ?_) | refine awse_intro (ht _) (fun hrun => ?_)) | (show PGE _ _ _ _ _; first | refine pge_intro (hc _) (fun tm' => ?_) | refine pge_intro (must_run _ _) (fun tm' => ?_) | refine pge_intro (hs _) (fun tm' => ?_) | refine pge_intro (ht _) (fun tm' => ?_))) <;> (simp only [go_sem, Nat.reduceAdd, Nat.reduceSub, Nat.reduceMul, Nat.reduceLeDiff, Nat.reduceLT, Nat.reduceEqDiff, Int.reduceToNat, Int.reduceAdd, Int.reduceMul, Int.reduceSub, Int.reduceLT, Int.reduceLE, Int.reduceEq, Int.reduceNeg, Int.reduceBEq, Int.reduceBNe, ↓reduceIte, reduceCtorEq, hle] <;> try simp (disch := omega) only [wrap_of])) | (refine hn _ _ ?_; clear hn hp Kn Kp) | (refine hp _ _ _ ?_; clear hn hp Kn Kp) | (refine awpd_cond rfl (fun hb => ?_) (fun hb => ?_) <;> (try simp only [decide_eq_true_eq, decide_eq_false_iff_not, Bool.not_eq_true', Bool.not_eq_false', Bool.true_eq_false, Bool.false_eq_true, beq_iff_eq, bne_iff_ne, bne_eq_false_iff_eq, beq_eq_false_iff_ne, gt_iff_lt, ge_iff_le, Int.reduceEq, Int.reduceNe, Int.reduceLT, Int.reduceLE, ne_eq, not_true_eq_false, not_false_eq_true] at hb)) | ((first | refine awg_split (fun hb => ?_) (fun hb => ?_) | refine awsg_split (fun hb => ?_) (fun hb => ?_)) <;> have hb0 := hb <;> (try simp only [decide_eq_true_eq, decide_eq_false_iff_not, Bool.not_eq_true', Bool.not_eq_false', Bool.true_eq_false, Bool.false_eq_true, beq_iff_eq, bne_iff_ne, bne_eq_false_iff_eq, beq_eq_false_iff_ne, gt_iff_lt, ge_iff_le, Int.reduceEq, Int.reduceNe, Int.reduceLT, Int.reduceLE, ne_eq, not_true_eq_false, not_false_eq_true] at hb0) <;> (try simp only [beq_true, beq_false, Bool.not_eq_true', Bool.not_eq_false'] at hb) <;> (simp only [go_sem, Nat.reduceAdd, Nat.reduceSub, Nat.reduceMul, Nat.reduceLeDiff, Nat.reduceLT, Nat.reduceEqDiff, Int.reduceToNat, Int.reduceAdd, Int.reduceMul, Int.reduceSub, Int.reduceLT, Int.reduceLE, Int.reduceEq, Int.reduceNeg, Int.reduceBEq, Int.reduceBNe, ↓reduceIte, reduceCtorEq, hle, hb, hb0] <;> try simp (disch := omega) only [wrap_of])) | (refine And.intro ?_ ?_) | refine awpd_ret ?_ | refine awpd_skip ?_ | refine awloop_step ?_ | fail)
        refine ⟨_, caught_pan _ _ _ 0 (getO0 _ _ _), ?_⟩
        ((try simp only [go_sem, Nat.reduceAdd, Nat.reduceSub, Nat.reduceMul, Nat.reduceLeDiff, Nat.reduceLT, Nat.reduceEqDiff, Int.reduceToNat, Int.reduceAdd, Int.reduceMul, Int.reduceSub, Int.reduceLT, Int.reduceLE, Int.reduceEq, Int.reduceNeg, Int.reduceBEq, Int.reduceBNe, ↓reduceIte, reduceCtorEq]); (first | refine ⟨_, rfl, _, rfl, Fin.pure0 0 ?_⟩ | refine ⟨_, rfl, _, rfl, Fin.pure 1 ?_⟩); simp only [AV.low, List.map_cons, List.map_nil, aOne, aev, List.getElem?_cons_zero, List.getElem?_cons_succ, Option.getD_some, List.length_append, List.length_cons, List.length_nil, Nat.lt_irrefl, if_false]; try rfl)
end Go.Proofs.Ytiifbdkedainnaa.Y

set_option maxHeartbeats 8000000
set_option linter.unusedVariables false
set_option linter.unusedSimpArgs false
namespace Go.Proofs.Ytiifbdkedainnaa.Y
open Go.Proofs.Ytiifbdkedainnaa.AL Go.Proofs Go
attribute [local irreducible] AWP AWL AWG AWR AWE AWX AWO AWSeq AWSG AWSR AWSO AWSE AWSF GoodP OGW OGR OGE OGX PGW PGR PGE Wk AWLoop AWPD AWLD

def ansC (x : Int × Int) : AV := .tup [.i x.1, .i x.2]
theorem Check_run (p : Prg) (hl : p.vars.length ≤ 1000000) (hok : okP p) (H0 : List AObj) : ARun Try.prog 42 [.ag (cP p)] H0 (.ret (ansC (checkS p)) H0) := by
  unfold checkS
  cases hks : ksL p.vars with
  | none =>
    (refine ARun.intro Try.func42 rfl Try.call42 Try.ntmps42 Try.results42 ?_; simp only [List.length_cons, List.length_nil, List.length_map, Nat.reduceAdd, Nat.reduceSub, List.replicate_succ, List.replicate_zero, List.cons_append, List.nil_append])
    repeat' (first | refine awp_seq ?_ | refine awp_block ?_ | refine awp_scope ?_ | ((first | refine awp_region_k fun Kn Kp hn hp => ?_ | refine oge_intro (by assumption) ?_ | (show AWE _ _ _ _ _ _ _ _ _; first | refine awe_intro (start_run p.vars hl _) ?_) | (show AWSF _ _ _ _ _ _ _ _ _ _ _; first | refine awsf_intro (start_run p.vars hl _) (fun hrun => ?_)) | (show OGE _ _ _ _ _ _ _; first | refine oge_intro (start_run p.vars hl _) ?_) | (show AWSE _ _ _ _ _ _ _ _ _ _ _; first | refine awse_intro (start_run p.vars hl _) (fun hrun => ?_)) | (show PGE _ _ _ _ _; first | refine pge_intro (start_run p.vars hl _) (fun tm' => ?_))) <;> (simp only [go_sem, Nat.reduceAdd, Nat.reduceSub, Nat.reduceMul, Nat.reduceLeDiff, Nat.reduceLT, Nat.reduceEqDiff, Int.reduceToNat, Int.reduceAdd, Int.reduceMul, Int.reduceSub, Int.reduceLT, Int.reduceLE, Int.reduceEq, Int.reduceNeg, Int.reduceBEq, Int.reduceBNe, ↓reduceIte, reduceCtorEq, startAns, hks] <;> try simp (disch := omega) only [wrap_of])) | (refine hn _ _ ?_; clear hn hp Kn Kp) | (refine hp _ _ _ ?_; clear hn hp Kn Kp) | (refine awp_cond rfl (fun hb => ?_) (fun hb => ?_) <;> (try simp only [decide_eq_true_eq, decide_eq_false_iff_not, Bool.not_eq_true', Bool.not_eq_false', Bool.true_eq_false, Bool.false_eq_true, beq_iff_eq, bne_iff_ne, bne_eq_false_iff_eq, beq_eq_false_iff_ne, gt_iff_lt, ge_iff_le, Int.reduceEq, Int.reduceNe, Int.reduceLT, Int.reduceLE, ne_eq, not_true_eq_false, not_false_eq_true] at hb)) | ((first | refine awg_split (fun hb => ?_) (fun hb => ?_) | refine awsg_split (fun hb => ?_) (fun hb => ?_)) <;> have hb0 := hb <;> (try simp only [decide_eq_true_eq, decide_eq_false_iff_not, Bool.not_eq_true', Bool.not_eq_false', Bool.true_eq_false, Bool.false_eq_true, beq_iff_eq, bne_iff_ne, bne_eq_false_iff_eq, beq_eq_false_iff_ne, gt_iff_lt, ge_iff_le, Int.reduceEq, Int.reduceNe, Int.reduceLT, Int.reduceLE, ne_eq, not_true_eq_false, not_false_eq_true] at hb0) <;> (try simp only [beq_true, beq_false, Bool.not_eq_true', Bool.not_eq_false'] at hb) <;> (simp only [go_sem, Nat.reduceAdd, Nat.reduceSub, Nat.reduceMul, Nat.reduceLeDiff, Nat.reduceLT, Nat.reduceEqDiff, Int.reduceToNat, Int.reduceAdd, Int.reduceMul, Int.reduceSub, Int.reduceLT, Int.reduceLE, Int.reduceEq, Int.reduceNeg, Int.reduceBEq, Int.reduceBNe, ↓reduceIte, reduceCtorEq, startAns, hks, hb, hb0] <;> try simp (disch := omega) only [wrap_of])) | (refine And.intro ?_ ?_) | refine awp_skip ?_ | refine awp_ret ?_ | refine awp_exit ?_ | refine awp_label ?_ | refine awloop_step ?_ | fail)
    ((try simp only [go_sem, Nat.reduceAdd, Nat.reduceSub, Nat.reduceMul, Nat.reduceLeDiff, Nat.reduceLT, Nat.reduceEqDiff, Int.reduceToNat, Int.reduceAdd, Int.reduceMul, Int.reduceSub, Int.reduceLT, Int.reduceLE, Int.reduceEq, Int.reduceNeg, Int.reduceBEq, Int.reduceBNe, ↓reduceIte, reduceCtorEq]); (first | refine ⟨_, rfl, _, rfl, Fin.pure0 0 ?_⟩ | refine ⟨_, rfl, _, rfl, Fin.pure 1 ?_⟩); simp only [AV.low, List.map_cons, List.map_nil, aOne, aev, List.getElem?_cons_zero, List.getElem?_cons_succ, Option.getD_some, List.length_append, List.length_cons, List.length_nil, Nat.lt_irrefl, if_false]; try rfl)
    all_goals simp [ansC]
  | some vs =>
    by_cases h12 : 12 < p.vars.length
    · have h12' : decide (p.vars.length ≤ 12) = false := by simp; omega
      simp only [h12, if_true]
      (refine ARun.intro Try.func42 rfl Try.call42 Try.ntmps42 Try.results42 ?_; simp only [List.length_cons, List.length_nil, List.length_map, Nat.reduceAdd, Nat.reduceSub, List.replicate_succ, List.replicate_zero, List.cons_append, List.nil_append])
      repeat' (first | refine awp_seq ?_ | refine awp_block ?_ | refine awp_scope ?_ | ((first | refine awp_region_k fun Kn Kp hn hp => ?_ | refine oge_intro (by assumption) ?_ | (show AWE _ _ _ _ _ _ _ _ _; first | refine awe_intro (start_run p.vars hl _) ?_) | (show AWSF _ _ _ _ _ _ _ _ _ _ _; first | refine awsf_intro (start_run p.vars hl _) (fun hrun => ?_)) | (show OGE _ _ _ _ _ _ _; first | refine oge_intro (start_run p.vars hl _) ?_) | (show AWSE _ _ _ _ _ _ _ _ _ _ _; first | refine awse_intro (start_run p.vars hl _) (fun hrun => ?_)) | (show PGE _ _ _ _ _; first | refine pge_intro (start_run p.vars hl _) (fun tm' => ?_))) <;> (simp only [go_sem, Nat.reduceAdd, Nat.reduceSub, Nat.reduceMul, Nat.reduceLeDiff, Nat.reduceLT, Nat.reduceEqDiff, Int.reduceToNat, Int.reduceAdd, Int.reduceMul, Int.reduceSub, Int.reduceLT, Int.reduceLE, Int.reduceEq, Int.reduceNeg, Int.reduceBEq, Int.reduceBNe, ↓reduceIte, reduceCtorEq, startAns, hks, h12'] <;> try simp (disch := omega) only [wrap_of])) | (refine hn _ _ ?_; clear hn hp Kn Kp) | (refine hp _ _ _ ?_; clear hn hp Kn Kp) | (refine awp_cond rfl (fun hb => ?_) (fun hb => ?_) <;> (try simp only [decide_eq_true_eq, decide_eq_false_iff_not, Bool.not_eq_true', Bool.not_eq_false', Bool.true_eq_false, Bool.false_eq_true, beq_iff_eq, bne_iff_ne, bne_eq_false_iff_eq, beq_eq_false_iff_ne, gt_iff_lt, ge_iff_le, Int.reduceEq, Int.reduceNe, Int.reduceLT, Int.reduceLE, ne_eq, not_true_eq_false, not_false_eq_true] at hb)) | ((first | refine awg_split (fun hb => ?_) (fun hb => ?_) | refine awsg_split (fun hb => ?_) (fun hb => ?_)) <;> have hb0 := hb <;> (try simp only [decide_eq_true_eq, decide_eq_false_iff_not, Bool.not_eq_true', Bool.not_eq_false', Bool.true_eq_false, Bool.false_eq_true, beq_iff_eq, bne_iff_ne, bne_eq_false_iff_eq, beq_eq_false_iff_ne, gt_iff_lt, ge_iff_le, Int.reduceEq, Int.reduceNe, Int.reduceLT, Int.reduceLE, ne_eq, not_true_eq_false, not_false_eq_true] at hb0) <;> (try simp only [beq_true, beq_false, Bool.not_eq_true', Bool.not_eq_false'] at hb) <;> (simp only [go_sem, Nat.reduceAdd, Nat.reduceSub, Nat.reduceMul, Nat.reduceLeDiff, Nat.reduceLT, Nat.reduceEqDiff, Int.reduceToNat, Int.reduceAdd, Int.reduceMul, Int.reduceSub, Int.reduceLT, Int.reduceLE, Int.reduceEq, Int.reduceNeg, Int.reduceBEq, Int.reduceBNe, ↓reduceIte, reduceCtorEq, startAns, hks, h12', hb, hb0] <;> try simp (disch := omega) only [wrap_of])) | (refine And.intro ?_ ?_) | refine awp_skip ?_ | refine awp_ret ?_ | refine awp_exit ?_ | refine awp_label ?_ | refine awloop_step ?_ | fail)
      ((try simp only [go_sem, Nat.reduceAdd, Nat.reduceSub, Nat.reduceMul, Nat.reduceLeDiff, Nat.reduceLT, Nat.reduceEqDiff, Int.reduceToNat, Int.reduceAdd, Int.reduceMul, Int.reduceSub, Int.reduceLT, Int.reduceLE, Int.reduceEq, Int.reduceNeg, Int.reduceBEq, Int.reduceBNe, ↓reduceIte, reduceCtorEq]); (first | refine ⟨_, rfl, _, rfl, Fin.pure0 0 ?_⟩ | refine ⟨_, rfl, _, rfl, Fin.pure 1 ?_⟩); simp only [AV.low, List.map_cons, List.map_nil, aOne, aev, List.getElem?_cons_zero, List.getElem?_cons_succ, Option.getD_some, List.length_append, List.length_cons, List.length_nil, Nat.lt_irrefl, if_false]; try rfl)
      all_goals simp [ansC]
    · have h12' : decide (p.vars.length ≤ 12) = true := by simp; omega
      simp only [h12, if_false]
      have hvs := ksL_ok hks
      obtain ⟨⟨a0, b0⟩, ⟨a1, b1⟩, ⟨a2, b2⟩, ⟨a3, b3⟩, ⟨a4, b4⟩⟩ := hok
      have c0 := fun H0 => handler_run vs hvs p.on0 a0 b0 H0
      have c1 := fun H0 => handler_run vs hvs p.on1 a1 b1 H0
      have c2 := fun H0 => handler_run vs hvs p.on2 a2 b2 H0
      have c3 := fun H0 => handler_run vs hvs p.on3 a3 b3 H0
      have c4 := fun H0 => handler_run vs hvs p.on4 a4 b4 H0
      unfold evS
      (refine ARun.intro Try.func42 rfl Try.call42 Try.ntmps42 Try.results42 ?_; simp only [List.length_cons, List.length_nil, List.length_map, Nat.reduceAdd, Nat.reduceSub, List.replicate_succ, List.replicate_zero, List.cons_append, List.nil_append])
      repeat' (first | refine awp_seq ?_ | refine awp_block ?_ | refine awp_scope ?_ | ((first | refine awp_region_k fun Kn Kp hn hp => ?_ | refine oge_intro (by assumption) ?_ | (show AWE _ _ _ _ _ _ _ _ _; first | refine awe_intro (start_run p.vars hl _) ?_) | (show AWSF _ _ _ _ _ _ _ _ _ _ _; first | refine awsf_intro (start_run p.vars hl _) (fun hrun => ?_)) | (show OGE _ _ _ _ _ _ _; first | refine oge_intro (start_run p.vars hl _) ?_) | (show AWSE _ _ _ _ _ _ _ _ _ _ _; first | refine awse_intro (start_run p.vars hl _) (fun hrun => ?_)) | (show PGE _ _ _ _ _; first | refine pge_intro (start_run p.vars hl _) (fun tm' => ?_))) <;> (simp only [go_sem, Nat.reduceAdd, Nat.reduceSub, Nat.reduceMul, Nat.reduceLeDiff, Nat.reduceLT, Nat.reduceEqDiff, Int.reduceToNat, Int.reduceAdd, Int.reduceMul, Int.reduceSub, Int.reduceLT, Int.reduceLE, Int.reduceEq, Int.reduceNeg, Int.reduceBEq, Int.reduceBNe, ↓reduceIte, reduceCtorEq, startAns, hks, h12'] <;> try simp (disch := omega) only [wrap_of])) | (refine hn _ _ ?_; clear hn hp Kn Kp) | (refine hp _ _ _ ?_; clear hn hp Kn Kp) | (refine awp_cond rfl (fun hb => ?_) (fun hb => ?_) <;> (try simp only [decide_eq_true_eq, decide_eq_false_iff_not, Bool.not_eq_true', Bool.not_eq_false', Bool.true_eq_false, Bool.false_eq_true, beq_iff_eq, bne_iff_ne, bne_eq_false_iff_eq, beq_eq_false_iff_ne, gt_iff_lt, ge_iff_le, Int.reduceEq, Int.reduceNe, Int.reduceLT, Int.reduceLE, ne_eq, not_true_eq_false, not_false_eq_true] at hb)) | ((first | refine awg_split (fun hb => ?_) (fun hb => ?_) | refine awsg_split (fun hb => ?_) (fun hb => ?_)) <;> have hb0 := hb <;> (try simp only [decide_eq_true_eq, decide_eq_false_iff_not, Bool.not_eq_true', Bool.not_eq_false', Bool.true_eq_false, Bool.false_eq_true, beq_iff_eq, bne_iff_ne, bne_eq_false_iff_eq, beq_eq_false_iff_ne, gt_iff_lt, ge_iff_le, Int.reduceEq, Int.reduceNe, Int.reduceLT, Int.reduceLE, ne_eq, not_true_eq_false, not_false_eq_true] at hb0) <;> (try simp only [beq_true, beq_false, Bool.not_eq_true', Bool.not_eq_false'] at hb) <;> (simp only [go_sem, Nat.reduceAdd, Nat.reduceSub, Nat.reduceMul, Nat.reduceLeDiff, Nat.reduceLT, Nat.reduceEqDiff, Int.reduceToNat, Int.reduceAdd, Int.reduceMul, Int.reduceSub, Int.reduceLT, Int.reduceLE, Int.reduceEq, Int.reduceNeg, Int.reduceBEq, Int.reduceBNe, ↓reduceIte, reduceCtorEq, startAns, hks, h12', hb, hb0] <;> try simp (disch := omega) only [wrap_of])) | (refine And.intro ?_ ?_) | refine awp_skip ?_ | refine awp_ret ?_ | refine awp_exit ?_ | refine awp_label ?_ | refine awloop_step ?_ | fail)
      refine awp_loop 6 ?_
      repeat' (first | refine awp_seq ?_ | refine awp_block ?_ | refine awp_scope ?_ | ((first | refine awp_region_k fun Kn Kp hn hp => ?_ | refine oge_intro (by assumption) ?_ | (show AWE _ _ _ _ _ _ _ _ _; first | refine awe_intro (c0 _) ?_ | refine awe_intro (c1 _) ?_ | refine awe_intro (c2 _) ?_ | refine awe_intro (c3 _) ?_ | refine awe_intro (c4 _) ?_) | (show AWSF _ _ _ _ _ _ _ _ _ _ _; first | refine awsf_intro (c0 _) (fun hrun => ?_) | refine awsf_intro (c1 _) (fun hrun => ?_) | refine awsf_intro (c2 _) (fun hrun => ?_) | refine awsf_intro (c3 _) (fun hrun => ?_) | refine awsf_intro (c4 _) (fun hrun => ?_)) | (show OGE _ _ _ _ _ _ _; first | refine oge_intro (c0 _) ?_ | refine oge_intro (c1 _) ?_ | refine oge_intro (c2 _) ?_ | refine oge_intro (c3 _) ?_ | refine oge_intro (c4 _) ?_) | (show AWSE _ _ _ _ _ _ _ _ _ _ _; first | refine awse_intro (c0 _) (fun hrun => ?_) | refine awse_intro (c1 _) (fun hrun => ?_) | refine awse_intro (c2 _) (fun hrun => ?_) | refine awse_intro (c3 _) (fun hrun => ?_) | refine awse_intro (c4 _) (fun hrun => ?_)) | (show PGE _ _ _ _ _; first | refine pge_intro (c0 _) (fun tm' => ?_) | refine pge_intro (c1 _) (fun tm' => ?_) | refine pge_intro (c2 _) (fun tm' => ?_) | refine pge_intro (c3 _) (fun tm' => ?_) | refine pge_intro (c4 _) (fun tm' => ?_))) <;> (simp only [go_sem, Nat.reduceAdd, Nat.reduceSub, Nat.reduceMul, Nat.reduceLeDiff, Nat.reduceLT, Nat.reduceEqDiff, Int.reduceToNat, Int.reduceAdd, Int.reduceMul, Int.reduceSub, Int.reduceLT, Int.reduceLE, Int.reduceEq, Int.reduceNeg, Int.reduceBEq, Int.reduceBNe, ↓reduceIte, reduceCtorEq, Int.reduceAdd] <;> try simp (disch := omega) only [wrap_of])) | (refine hn _ _ ?_; clear hn hp Kn Kp) | (refine hp _ _ _ ?_; clear hn hp Kn Kp) | (refine awp_cond rfl (fun hb => ?_) (fun hb => ?_) <;> (try simp only [decide_eq_true_eq, decide_eq_false_iff_not, Bool.not_eq_true', Bool.not_eq_false', Bool.true_eq_false, Bool.false_eq_true, beq_iff_eq, bne_iff_ne, bne_eq_false_iff_eq, beq_eq_false_iff_ne, gt_iff_lt, ge_iff_le, Int.reduceEq, Int.reduceNe, Int.reduceLT, Int.reduceLE, ne_eq, not_true_eq_false, not_false_eq_true] at hb)) | ((first | refine awg_split (fun hb => ?_) (fun hb => ?_) | refine awsg_split (fun hb => ?_) (fun hb => ?_)) <;> have hb0 := hb <;> (try simp only [decide_eq_true_eq, decide_eq_false_iff_not, Bool.not_eq_true', Bool.not_eq_false', Bool.true_eq_false, Bool.false_eq_true, beq_iff_eq, bne_iff_ne, bne_eq_false_iff_eq, beq_eq_false_iff_ne, gt_iff_lt, ge_iff_le, Int.reduceEq, Int.reduceNe, Int.reduceLT, Int.reduceLE, ne_eq, not_true_eq_false, not_false_eq_true] at hb0) <;> (try simp only [beq_true, beq_false, Bool.not_eq_true', Bool.not_eq_false'] at hb) <;> (simp only [go_sem, Nat.reduceAdd, Nat.reduceSub, Nat.reduceMul, Nat.reduceLeDiff, Nat.reduceLT, Nat.reduceEqDiff, Int.reduceToNat, Int.reduceAdd, Int.reduceMul, Int.reduceSub, Int.reduceLT, Int.reduceLE, Int.reduceEq, Int.reduceNeg, Int.reduceBEq, Int.reduceBNe, ↓reduceIte, reduceCtorEq, Int.reduceAdd, hb, hb0] <;> try simp (disch := omega) only [wrap_of])) | (refine And.intro ?_ ?_) | refine awp_skip ?_ | refine awp_ret ?_ | refine awp_exit ?_ | refine awp_label ?_ | refine awloop_step ?_ | fail)
      all_goals
        ((try simp only [go_sem, Nat.reduceAdd, Nat.reduceSub, Nat.reduceMul, Nat.reduceLeDiff, Nat.reduceLT, Nat.reduceEqDiff, Int.reduceToNat, Int.reduceAdd, Int.reduceMul, Int.reduceSub, Int.reduceLT, Int.reduceLE, Int.reduceEq, Int.reduceNeg, Int.reduceBEq, Int.reduceBNe, ↓reduceIte, reduceCtorEq]); (first | refine ⟨_, rfl, _, rfl, Fin.pure0 0 ?_⟩ | refine ⟨_, rfl, _, rfl, Fin.pure 1 ?_⟩); simp only [AV.low, List.map_cons, List.map_nil, aOne, aev, List.getElem?_cons_zero, List.getElem?_cons_succ, Option.getD_some, List.length_append, List.length_cons, List.length_nil, Nat.lt_irrefl, if_false]; try rfl)
        simp [ansC, *]
end Go.Proofs.Ytiifbdkedainnaa.Y

set_option maxHeartbeats 8000000
set_option linter.unusedVariables false
set_option linter.unusedSimpArgs false
namespace Go.Proofs.Ytiifbdkedainnaa.Y
open Go.Proofs.Ytiifbdkedainnaa.AL Go.Proofs Go
attribute [local irreducible] AWP AWL AWG AWR AWE AWX AWO AWSeq AWSG AWSR AWSO AWSE AWSF GoodP OGW OGR OGE OGX PGW PGR PGE Wk AWLoop AWPD AWLD

end Go.Proofs.Ytiifbdkedainnaa.Y

set_option maxHeartbeats 8000000
set_option linter.unusedVariables false
set_option linter.unusedSimpArgs false
namespace Go.Proofs.Ytiifbdkedainnaa.Y
open Go.Proofs.Ytiifbdkedainnaa.AL Go.Proofs Go
attribute [local irreducible] AWP AWL AWG AWR AWE AWX AWO AWSeq AWSG AWSR AWSO AWSE AWSF GoodP OGW OGR OGE OGX PGW PGR PGE Wk AWLoop AWPD AWLD

end Go.Proofs.Ytiifbdkedainnaa.Y

/- The fixed examples. -/
namespace Go.Proofs.Ytiifbdkedainnaa.AL
def xw : Ex := .mk 2 0 0 []
def xp : Ex := .mk 2 1 0 []
def xin (n : Int) : Ex := .mk 3 n 0 []
def xnum (n u : Int) : Ex := .mk 1 n u []
def xtwo (op : Int) (a b : Ex) : Ex := .mk op 0 0 [a, b]
def xrate : Ex := xtwo 7 (xtwo 6 (xin 2) (xnum 8 0)) (xin 1)
def xsq : Ex := xtwo 6 (xtwo 6 xw xw) (xtwo 6 xw xw)
theorem hd1 : isS (xtwo 4 xw (xnum 1 1)) ⟨1, 0, 0⟩ = true := by decide
theorem hd2 : failsS (xtwo 4 xw (xnum 1 0)) 13 = true := by decide
theorem hd3 : isS xrate ⟨0, 1, -1⟩ = true := by decide
theorem hd4 : isS (xtwo 7 (xtwo 6 xp (xin 1)) (xin 2)) ⟨0, 0, 0⟩ = true := by decide
theorem hd5 : isS xsq ⟨4, 0, 0⟩ = true := by decide
theorem hd6 : failsS (xtwo 6 xsq xw) 13 = true := by decide
theorem hd7 : failsS (.mk 2 2 0 []) 1 = true := by decide
theorem hd8 : failsS (.mk 4 0 0 [xw]) 1 = true := by decide
def pgood : Prg := ⟨⟨#[]⟩, varsL, [], [.mk 1 0 0 (xtwo 7 xw (xnum 2 0)) (.mk 0 0 0 []) [] []], [], [], [], 0, 0⟩
def pbad : Prg := ⟨⟨#[]⟩, varsL, [], [.mk 1 0 0 (xtwo 7 xw (xnum 2 0)) (.mk 0 0 0 []) [] []], [], [.mk 2 0 1 xw xp [] []], [], 0, 0⟩
theorem hd9 : checkS pgood = (-1, 0) := by decide
theorem hd10 : checkS pbad = (3, 13) := by decide
end Go.Proofs.Ytiifbdkedainnaa.AL

set_option maxHeartbeats 100000000
set_option maxRecDepth 20000
set_option linter.unusedVariables false
set_option linter.unusedSimpArgs false
namespace Go.Proofs.Ytiifbdkedainnaa.Y
open Go.Proofs.Ytiifbdkedainnaa.AL Go.Proofs Go
attribute [local irreducible] AWP AWL AWG AWR AWE AWX AWO AWSeq AWSG AWSR AWSO AWSE AWSF GoodP OGW OGR OGE OGX PGW PGR PGE Wk AWLoop AWPD AWLD

theorem good_run (H0 : List AObj) : ARun Try.prog 42 [.ag (cP pgood)] H0 (.ret (.tup [.i (-1), .i 0]) H0) := by
  have := Check_run pgood (by decide) (by refine ⟨⟨?_, ?_⟩, ⟨?_, ?_⟩, ⟨?_, ?_⟩, ⟨?_, ?_⟩, ⟨?_, ?_⟩⟩ <;> first | decide | trivial | simp [pgood, fineL, fine, nodes, nodesL, xtwo, xw, xnum]) H0
  rwa [hd9] at this
theorem bad_run (H0 : List AObj) : ARun Try.prog 42 [.ag (cP pbad)] H0 (.ret (.tup [.i 3, .i 13]) H0) := by
  have := Check_run pbad (by decide) (by refine ⟨⟨?_, ?_⟩, ⟨?_, ?_⟩, ⟨?_, ?_⟩, ⟨?_, ?_⟩, ⟨?_, ?_⟩⟩ <;> first | decide | trivial | simp [pbad, fineL, fine, nodes, nodesL, xtwo, xw, xnum, xp]) H0
  rwa [hd10] at this
end Go.Proofs.Ytiifbdkedainnaa.Y

/- From the data that a row reads to plain Lean data; and a law's row out of what its walk says. -/
set_option linter.unusedVariables false
set_option linter.unusedSectionVars false
set_option linter.unusedSimpArgs false
namespace Go.Proofs.Ytiifbdkedainnaa.AL
variable [G : GTab]
open Go.ChangeShapes Go.WideShapes Go.RowKit

abbrev Old (w : World) : Nat → Prop := fun b => b < w.heap.size
/-- Cells told by pure values. -/
inductive PRelL (w : World) (S : Nat → Prop) : List PV → List Value → Prop
  | nil : PRelL w S [] []
  | cons {p v ps vs} (h : PRel w S p v) (t : PRelL w S ps vs) : PRelL w S (p :: ps) (v :: vs)

section
variable {w : World} {S : Nat → Prop}
theorem PRelL.append {ps qs : List PV} {vs us : List Value} (h : PRelL w S ps vs) (k : PRelL w S qs us) : PRelL w S (ps ++ qs) (vs ++ us) := by
  induction h with
  | nil => exact k
  | cons h t ih => exact .cons h ih
theorem PRelL.len {ps : List PV} {vs : List Value} (h : PRelL w S ps vs) : ps.length = vs.length := by
  induction h with
  | nil => rfl
  | cons h t ih => simp [ih]
theorem PRelL.get {ps : List PV} {vs : List Value} (h : PRelL w S ps vs) : ∀ (j : Nat) (p : PV), ps[j]? = some p → ∃ v, vs[j]? = some v ∧ PRel w S p v := by
  induction h with
  | nil => intro j p h; simp at h
  | cons h t ih =>
    intro j p hj
    cases j with
    | zero => simp at hj; subst hj; exact ⟨_, rfl, h⟩
    | succ j => simp at hj; exact ih j p hj
theorem PRelL.one {ps : List PV} {vs : List Value} (h : PRelL w S ps vs) : ∀ v ∈ vs, v.oneCell' = true := by
  induction h with
  | nil => simp
  | cons h t ih =>
    intro v hv
    rcases List.mem_cons.1 hv with rfl | hv
    · exact h.one
    · exact ih v hv
theorem PRelL.arel {B : BMap} {H : List AObj} {ps : List PV} {vs : List Value} (h : PRelL w S ps vs) : ARelL w B S H (ps.map AV.pv) vs := by
  induction h with
  | nil => exact ARelL.nil
  | cons h t ih => exact ARelL.cons (.pv h) ih
theorem PRelL.ag {B : BMap} {H : List AObj} {ps : List PV} {vs : Array Value} (h : PRelL w S ps vs.toList) : ARel w B S H (.ag ps) (.agg vs) := by
  have := h.arel (B := B) (H := H)
  have h2 := ARel.agg this.1 h.one this.2
  simpa using h2
end

/-- How much a datum bears, by whatever count. -/
structure Bulk (β : (H : Type) → DataW H → Nat) (βl : (H : Type) → List (DataW H) → Nat) : Prop where
  lit : ∀ H l, 1 ≤ β H (.lit l)
  str : ∀ H b, β H (.lit (.string b)) = b.length + 1
  nil : ∀ H, β H .nil = 1
  slice : ∀ H es sp, β H (.slice es sp) = βl H es + βl H sp + 1
  agg : ∀ H ps, β H (.agg ps) = βl H ps + 1
  lnil : ∀ H, βl H [] = 0
  lcons : ∀ H d l, βl H (d :: l) = β H d + βl H l

/-- Data of type t is read asx α, with fuel up to n: told by enc, of weight at most the datum's, with property p. -/
def Rd (P : Program) (β : (H : Type) → DataW H → Nat) (n : Nat) (t : TypeId) {α : Type} (enc : α → List PV) (μ : α → Nat) (p : α → Prop) : Prop :=
  ∀ {H : Type} {e : TypeId × Value → H} {w : World} {sp : Nat → Bool} {hd : Bool} {fuel : Nat} {cs : List Value} {x : DataW H × List MemPlace}, fuel ≤ n →
    DataW.trod e P w 0 sp hd fuel t cs = some x → (∀ q ∈ x.2, q.block < w.heap.size) → ∃ a, PRelL w (Old w) (enc a) cs ∧ μ a ≤ β H x.1 ∧ p a

section
variable {P : Program} {β : (H : Type) → DataW H → Nat} {βl : (H : Type) → List (DataW H) → Nat} {n : Nat} {t : TypeId}
theorem Rd.zero {α : Type} {enc : α → List PV} {μ : α → Nat} {p : α → Prop} : Rd P β 0 t enc μ p := by
  intro H e w sp hd fuel cs x hn h _
  cases fuel with
  | zero => unfold DataW.trod at h; cases h
  | succ k => omega
theorem Rd.int (hB : Bulk β βl) {k : IntKind} (ht : P.underlying t = some (.int k)) : Rd P β n t (fun m : Int => [.sc (.int k m)]) (fun _ => 1) (fun m => (Lit.int k m).wf = true) := by
  intro H e w sp hd fuel cs x hn h _
  obtain ⟨m, rfl, rfl, hw⟩ := DataW.trod_int ht h
  exact ⟨m, .cons (.sc rfl) .nil, hB.lit _ _, hw⟩
theorem Rd.bool (hB : Bulk β βl) (ht : P.underlying t = some .bool) : Rd P β n t (fun m : Bool => [.sc (.bool m)]) (fun _ => 1) (fun _ => True) := by
  intro H e w sp hd fuel cs x hn h _
  obtain ⟨m, rfl, rfl⟩ := DataW.trod_bool ht h
  exact ⟨m, .cons (.sc rfl) .nil, hB.lit _ _, trivial⟩
theorem Rd.str (hB : Bulk β βl) (ht : P.underlying t = some .string) : Rd P β n t (fun m : ByteArray => [.sc (.string m)]) (fun m => m.size + 1) (fun m => m.size ≤ maxLen) := by
  intro H e w sp hd fuel cs x hn h _
  obtain ⟨m, rfl, rfl, hm⟩ := DataW.trod_string ht h
  refine ⟨m, .cons (.sc rfl) .nil, ?_, hm⟩
  show m.size + 1 ≤ β H (.lit (.string m.data.toList))
  rw [hB.str, Array.length_toList]; exact Nat.le_refl _

theorem add_add' (a : Addr) (i j : Nat) : (a.add i).add j = a.add (i + j) := by
  cases a with
  | mk b o s =>
    by_cases hi : i = 0
    · subst hi; simp [Addr.add]
    · by_cases hj : j = 0
      · subst hj; simp [Addr.add]
      · simp [Addr.add, hi, hj, Nat.add_assoc]
theorem choice_list {α β : Type} {R : Nat → α → β → Prop} : ∀ (l : List β) (k : Nat), (∀ i y, l[i]? = some y → ∃ a, R (k + i) a y) → ∃ asx : List α, asx.length = l.length ∧ ∀ (i : Nat) (a : α) (y : β), asx[i]? = some a → l[i]? = some y → R (k + i) a y
  | [], k, _ => ⟨[], rfl, fun i a y h => by simp at h⟩
  | y :: l, k, h => by
    obtain ⟨a, ha⟩ := h 0 y rfl
    obtain ⟨asx, h1, h2⟩ := choice_list (R := R) l (k + 1) (fun i z hz => by
      obtain ⟨b, hb⟩ := h (i + 1) z (by simpa using hz)
      exact ⟨b, by rw [show k + 1 + i = k + (i + 1) by omega]; exact hb⟩)
    refine ⟨a :: asx, by simp [h1], fun i b z hi hz => ?_⟩
    cases i with
    | zero => simp at hi hz; subst hi; subst hz; exact ha
    | succ i => simp at hi hz; have := h2 i b z hi hz; rwa [show k + (i + 1) = k + 1 + i by omega]

/-- The weights of a list. -/
def sumM {α : Type} (μ : α → Nat) : List α → Nat
  | [] => 0
  | a :: l => μ a + sumM μ l

theorem sum_le (hB : Bulk β βl) {H : Type} {α : Type} {μ : α → Nat} : ∀ (asx : List α) (ds : List (DataW H)), asx.length = ds.length → (∀ (i : Nat) (a : α) (d : DataW H), asx[i]? = some a → ds[i]? = some d → μ a ≤ β H d) → sumM μ asx ≤ βl H ds
  | [], [], _, _ => by simp [sumM]
  | [], _ :: _, h, _ => by simp at h
  | _ :: _, [], h, _ => by simp at h
  | a :: asx, d :: ds, h, k => by
    have h1 := k 0 a d rfl rfl
    have h2 := sum_le hB asx ds (by simpa using h) (fun i a d hi hd => k (i + 1) a d (by simpa using hi) (by simpa using hd))
    rw [hB.lcons]
    simp only [sumM]; omega

theorem Rd.slice (hB : Bulk β βl) {e : TypeId} {sz : Nat} (ht : P.underlying t = some (.slice e)) (hsz : P.cellsOf e = sz) (h0 : 0 < sz) {α : Type} {enc : α → List PV} {μ : α → Nat} {p : α → Prop}
    (R : Rd P β n e enc μ p) (hlen : ∀ a, (enc a).length = sz) : Rd P β (n + 1) t (fun l : List α => [.rs sz (l.map enc)]) (fun l => sumM μ l + 1) (fun l => ∀ a ∈ l, p a) := by
  intro H E w sp hd fuel cs x hn h hlt
  rcases DataW.trod_slice ht h with ⟨rfl, rfl⟩ | ⟨a, len, cap, elems, rest, m, rfl, rfl, rfl, hb, hlc, hcm, hl, hel, _, _⟩
  · refine ⟨[], .cons (PRel.rs (rows := []) (fun _ _ => undef) (Nat.le_refl _) (Nat.zero_le _) h0 (fun _ => rfl) (by simp) (by simp) (by simp)) .nil, ?_, by simp⟩
    simp only [sumM]; rw [hB.nil]; omega
  · subst hl
    have one : ∀ i y, elems[i]? = some y → ∃ b : α, (∃ us : List Value, us.length = sz ∧ (∀ j u, us[j]? = some u → w.cell? ((a.add (i * sz)).add j) = some u) ∧ PRelL w (Old w) (enc b) us) ∧ μ b ≤ β H y.1 ∧ p b := by
      intro i y hy
      have hi := (List.getElem?_eq_some_iff.1 hy).1
      have h1 := hel i hi
      rw [hy, hsz] at h1
      simp only [Option.bind_eq_some_iff] at h1
      obtain ⟨us, hu, h2⟩ := h1
      obtain ⟨b, h3, h4, h5⟩ := R (by omega) h2 (fun q hq => hlt q (by
        simp only [List.mem_append, List.mem_flatMap]
        exact .inr ⟨y, .inl (List.mem_of_getElem? hy), hq⟩))
      obtain ⟨_, k1, k2⟩ := World.cells?_some hu
      refine ⟨b, ⟨us, k1, fun j u hj => ?_, h3⟩, h4, h5⟩
      have hj' := (List.getElem?_eq_some_iff.1 hj).1
      have := k2 j (by omega)
      rw [hj] at this
      exact this
    obtain ⟨asx, hal, ha⟩ := choice_list (R := fun i (b : α) (y : DataW H × List MemPlace) => (∃ us : List Value, us.length = sz ∧ (∀ j u, us[j]? = some u → w.cell? ((a.add (i * sz)).add j) = some u) ∧ PRelL w (Old w) (enc b) us) ∧ μ b ≤ β H y.1 ∧ p b) elems 0
      (fun i y hy => by simpa using one i y hy)
    have ablk : 0 < elems.length → a.block < w.heap.size := by
      intro h
      have : MemPlace.cell a.block a.off ∈ MemPlace.row a ((elems.length + rest.length) * P.cellsOf e) := by
        refine MemPlace.mem_row.2 ⟨0, ?_, rfl⟩
        rw [hsz]; exact Nat.mul_pos (by omega) h0
      exact hlt _ (List.mem_append.2 (.inl this))
    refine ⟨asx, ?_, ?_, ?_⟩
    · refine .cons ?_ .nil
      have hrow : ∀ (i : Nat) (r : List PV), (asx.map enc)[i]? = some r → ∃ (b : α) (y : DataW H × List MemPlace), asx[i]? = some b ∧ elems[i]? = some y ∧ r = enc b := by
        intro i r hr
        simp only [List.getElem?_map, Option.map_eq_some_iff] at hr
        obtain ⟨b, hb, rfl⟩ := hr
        have := (List.getElem?_eq_some_iff.1 hb).1
        exact ⟨b, elems[i], hb, List.getElem?_eq_getElem (by omega), rfl⟩
      have hkey : ∀ (i : Nat) (r : List PV) (j : Nat) (q : PV), (asx.map enc)[i]? = some r → r[j]? = some q → w.cell? (a.add (i * sz + j)) = some ((w.cell? (a.add (i * sz + j))).getD undef) ∧ a.block < w.heap.size ∧ PRel w (Old w) q ((w.cell? (a.add (i * sz + j))).getD undef) := by
        intro i r j q hr hq
        obtain ⟨b, y, hb, hy, rfl⟩ := hrow i r hr
        obtain ⟨⟨us, k1, k2, k3⟩, _, _⟩ := ha i b y hb hy
        obtain ⟨u, hu, hrel⟩ := k3.get j q hq
        have := k2 j u hu
        rw [Nat.zero_add] at this
        have e : (a.add (i * sz)).add j = a.add (i * sz + j) := add_add' a _ _
        rw [e] at this
        rw [this]
        exact ⟨rfl, ablk (by have := (List.getElem?_eq_some_iff.1 hy).1; omega), hrel⟩
      have hlr : (asx.map enc).length = elems.length := by simp [hal]
      rw [← hlr]
      refine PRel.rs (fun i j => (w.cell? (a.add (i * sz + j))).getD undef) (by rw [hlr]; omega) hcm h0 (by simp) ?_ ?_ ?_
      · intro r hr
        obtain ⟨b, _, rfl⟩ := List.mem_map.1 hr
        exact hlen b
      · intro i r j q hr hq
        have := hkey i r j q hr hq
        exact ⟨a, rfl, this.2.1, this.1⟩
      · intro i r j q hr hq
        exact (hkey i r j q hr hq).2.2
    · have := sum_le hB (H := H) (μ := μ) asx (elems.map (·.1)) (by simp [hal]) (fun i b d hb hd => by
        simp only [List.getElem?_map, Option.map_eq_some_iff] at hd
        obtain ⟨y, hy, rfl⟩ := hd
        exact (ha i b y hb hy).2.1)
      show sumM μ asx + 1 ≤ β H (.slice (elems.map (·.1)) (rest.map (·.1)))
      rw [hB.slice]; omega
    · intro b hb
      obtain ⟨i, hi⟩ := List.mem_iff_getElem?.1 hb
      have := (List.getElem?_eq_some_iff.1 hi).1
      exact (ha i b elems[i] hi (List.getElem?_eq_getElem (by omega))).2.2

theorem Rd.mono {α : Type} {enc : α → List PV} {μ : α → Nat} {p : α → Prop} (R : ∀ n, Rd P β n t enc μ p) {m : Nat} : Rd P β m t enc μ p := R m

/-- A struct, field by field. -/
theorem trod_fields (hB : Bulk β βl) {fs : Array Field} (ht : P.underlying t = some (.struct fs)) {H : Type} {e : TypeId × Value → H} {w : World} {sp : Nat → Bool} {hd : Bool} {fuel : Nat} {cs : List Value} {x : DataW H × List MemPlace}
    (hn : fuel ≤ n + 1) (h : DataW.trod e P w 0 sp hd fuel t cs = some x) (hlt : ∀ q ∈ x.2, q.block < w.heap.size) :
    ∃ (xs : List (DataW H × List MemPlace)) (m : Nat), m ≤ n ∧ cs.length = P.cellsOf t ∧ xs.length = fs.size ∧ βl H (xs.map (·.1)) + 1 = β H x.1 ∧
      (∀ (i : Nat) (f : Field), fs[i]? = some f → DataW.trod e P w 0 sp hd m f.type ((cs.drop f.offset).take (P.cellsOf f.type)) = xs[i]?) ∧ (∀ y ∈ xs, ∀ q ∈ y.2, q.block < w.heap.size) := by
  obtain ⟨xs, m, rfl, rfl, h1, h2, h3⟩ := DataW.trod_struct ht h
  refine ⟨xs, m, by omega, h1, h2, by rw [hB.agg], h3, fun y hy q hq => hlt q ?_⟩
  simp only [List.mem_flatMap]
  exact ⟨y, hy, hq⟩
theorem trod_items (hB : Bulk β βl) {k : Nat} {e' : TypeId} (ht : P.underlying t = some (.array k e')) {H : Type} {e : TypeId × Value → H} {w : World} {sp : Nat → Bool} {hd : Bool} {fuel : Nat} {cs : List Value} {x : DataW H × List MemPlace}
    (hn : fuel ≤ n + 1) (h : DataW.trod e P w 0 sp hd fuel t cs = some x) (hlt : ∀ q ∈ x.2, q.block < w.heap.size) :
    ∃ (xs : List (DataW H × List MemPlace)) (m : Nat), m ≤ n ∧ cs.length = P.cellsOf t ∧ xs.length = k ∧ βl H (xs.map (·.1)) + 1 = β H x.1 ∧
      (∀ (i : Nat), i < k → DataW.trod e P w 0 sp hd m e' ((cs.drop (i * P.cellsOf e')).take (P.cellsOf e')) = xs[i]?) ∧ (∀ y ∈ xs, ∀ q ∈ y.2, q.block < w.heap.size) := by
  obtain ⟨xs, m, rfl, rfl, h1, h2, h3⟩ := DataW.trod_array ht h
  refine ⟨xs, m, by omega, h1, h2, by rw [hB.agg], h3, fun y hy q hq => hlt q ?_⟩
  simp only [List.mem_flatMap]
  exact ⟨y, hy, hq⟩

theorem of_one {w : World} {S : Nat → Prop} {p : PV} {v : Value} (h : PRelL w S [p] [v]) : PRel w S p v := by cases h with | cons h t => exact h

/-! ### an argument -/
theorem Rd.arg {α : Type} {enc : α → List PV} {μ : α → Nat} {p : α → Prop} (R : ∀ n, Rd P β n t enc μ p) {H : Type} {e : TypeId × Value → H} {w : World} {sp : Nat → Bool} {hd : Bool} {v : Value} {d : DataW H} {ps : List MemPlace}
    (h : DataW.Trod e P w 0 sp hd t v d ps) (hlt : ∀ q ∈ ps, q.block < w.heap.size) : ∃ a, PRelL w (Old w) (enc a) v.cells.toList ∧ μ a ≤ β H d ∧ p a := by
  obtain ⟨fuel, hf⟩ := h
  obtain ⟨a, h1, h2, h3⟩ := R fuel (Nat.le_refl _) hf hlt
  exact ⟨a, h1, h2, h3⟩
theorem arg_one {w w0 : World} {B : BMap} {S : Nat → Prop} {H : List AObj} {p : PV} {v : Value} {r : Reach} {b : Nat} (h : PRelL w S [p] v.cells.toList) (hv : Value.okWide P w0 r b t v)
    (hk : match P.underlying t with | some (.struct _) | some (.array _ _) => False | _ => True) (h1 : v.cells = #[v]) : ARel w B S H (.pv p) v := by
  rw [h1] at h
  exact .pv (of_one h)
theorem okWide_array {k : Nat} {e : TypeId} {w : World} {r : Reach} {base : Nat} {v : Value} (ht : P.underlying t = some (.array k e)) (h : Value.okWide P w r base t v) : ∃ cs, v = .agg cs ∧ cs.size = P.cellsOf t := by
  simp only [Value.okWide, ht] at h
  obtain ⟨cs, h1, h2, _⟩ := h
  exact ⟨cs, h1, h2⟩
theorem arg_struct {w w0 : World} {B : BMap} {S : Nat → Prop} {H : List AObj} {ps : List PV} {v : Value} {r : Reach} {b : Nat} {fs : Array Field} (ht : P.underlying t = some (.struct fs)) (hv : Value.okWide P w0 r b t v)
    (h : PRelL w S ps v.cells.toList) : ARel w B S H (.ag ps) v := by
  obtain ⟨cs, rfl, _⟩ := okWide_struct ht hv
  exact h.ag
theorem arg_array {w w0 : World} {B : BMap} {S : Nat → Prop} {H : List AObj} {ps : List PV} {v : Value} {r : Reach} {b : Nat} {k : Nat} {e : TypeId} (ht : P.underlying t = some (.array k e)) (hv : Value.okWide P w0 r b t v)
    (h : PRelL w S ps v.cells.toList) : ARel w B S H (.ag ps) v := by
  obtain ⟨cs, rfl, _⟩ := okWide_array ht hv
  exact h.ag
theorem arg_slice {w w0 : World} {B : BMap} {S : Nat → Prop} {H : List AObj} {p : PV} {v : Value} {r : Reach} {b : Nat} {e : TypeId} (ht : P.underlying t = some (.slice e)) (hv : Value.okWide P w0 r b t v)
    (h : PRelL w S [p] v.cells.toList) : ARel w B S H (.pv p) v := by
  obtain ⟨a, l, c, rfl⟩ := okWide_slice ht hv
  exact .pv (of_one h)
theorem arg_int {w w0 : World} {B : BMap} {S : Nat → Prop} {H : List AObj} {p : PV} {v : Value} {r : Reach} {b : Nat} {k : IntKind} (ht : P.underlying t = some (.int k)) (hv : Value.okWide P w0 r b t v)
    (h : PRelL w S [p] v.cells.toList) : ARel w B S H (.pv p) v := by
  obtain ⟨n, rfl⟩ := okWide_int ht hv
  exact .pv (of_one h)
theorem arg_str {w w0 : World} {B : BMap} {S : Nat → Prop} {H : List AObj} {p : PV} {v : Value} {r : Reach} {b : Nat} (ht : P.underlying t = some .string) (hv : Value.okWide P w0 r b t v)
    (h : PRelL w S [p] v.cells.toList) : ARel w B S H (.pv p) v := by
  obtain ⟨n, rfl⟩ := okWide_string ht hv
  exact .pv (of_one h)
theorem arg_bool {w w0 : World} {B : BMap} {S : Nat → Prop} {H : List AObj} {p : PV} {v : Value} {r : Reach} {b : Nat} (ht : P.underlying t = some .bool) (hv : Value.okWide P w0 r b t v)
    (h : PRelL w S [p] v.cells.toList) : ARel w B S H (.pv p) v := by
  obtain ⟨n, rfl⟩ := okWide_bool ht hv
  exact .pv (of_one h)

/-! ### the row -/
theorem top_hrel (w : World) (hG : GRel w (Old w)) : HRel w (fun _ => none) (Old w) [] :=
  ⟨fun id o h => by simp at h, fun i j b c d hi => by simp at hi, fun i b c hi => by simp at hi, fun b h => h, hG⟩

/-- All of the arguments read behind the call asx they did. -/
theorem trodAll_below {H : Type} {e : TypeId × Value → H} (hl : laidOutB P = true) {W W' : World} (hb : Below W.heap.size W W') : ∀ {ts : List TypeId} {vs : List Value} {ds : List (DataW H)} {ps : List MemPlace},
    (∀ t ∈ ts, P.readableRec t = true ∧ t < P.types.size) → DataW.TrodAll e P W 0 (fun _ => true) true ts vs ds ps → (∀ x ∈ ps, x.block < W.heap.size) →
    ∀ sp : Nat → Bool, (∀ p ∈ ps, sp p.block = true) → DataW.TrodAll e P W' 0 sp true ts vs ds ps
  | [], vs, ds, ps, _, h, _, sp, _ => by
    obtain ⟨rfl, rfl, rfl⟩ := trodAll_nil h
    exact rfl
  | t :: ts, vs, ds, ps, hr, h, hlt, sp, hsp => by
    obtain ⟨v, vs', d, ds', p, q, rfl, rfl, rfl, h1, h2⟩ := trodAll_cons h
    refine ⟨p, q, ?_, trodAll_below hl hb (fun t ht => hr t (by simp [ht])) h2 (fun x hx => hlt x (by simp [hx])) sp (fun x hx => hsp x (by simp [hx])), rfl⟩
    exact WideElems.Trod_stays hl (hr t (by simp)).1 (hr t (by simp)).2 h1 (fun x hx => hb.same (hlt x (by simp [hx]))) (fun x hx => hsp x (by simp [hx]))

theorem Step.below {w w' : World} {B B' : BMap} {S S' : Nat → Prop} {H H' : List AObj} (st : Step w B S H w' B' S' H') (hS : ∀ b, b < w.heap.size → S b) : Below w.heap.size w w' :=
  ⟨st.os, st.tape, st.output, st.size, fun k hk => st.keep k (hS k hk)⟩

/-- What a law owes, out of its walk. -/
theorem law_post {f : FuncId} {fn : Func} {s : ChangeSpec} {H : Type} {e : TypeId × Value → H} {apart fresh handsOn again : Bool} {W : World} {args : Array Value} {ds gs : List (DataW H)} {before : List MemPlace} {xs : List AV} {tb : TypeId}
    (hG : GRel W (Old W)) (hl : laidOutB P = true) (hW : DataW.Whole e P fn.params.toList s.vars apart W args.toList ds gs before) (hv : s.vars = []) (hr : ∀ t ∈ fn.params.toList, P.readableRec t = true ∧ t < P.types.size)
    (hres : fn.resultTypes = #[tb]) (htb : P.underlying tb = some .bool) (hspec : (s.fn H ds).results = [.lit (.bool true)]) (hargs : (s.fn H ds).args = ds) (hvars : (s.fn H ds).vars = [])
    (hx : ARelL W (fun _ => none) (Old W) [] xs args.toList) (hrun : ARun P f xs [] (.ret (.b true) [])) :
    Calls P f args W fun en W' => ∃ v, en = .returned v ∧ s.post e P fn apart fresh handsOn again W args v W' := by
  have hW' := hW
  obtain ⟨p, q, hA, hV, rfl, hfz, hnd⟩ := hW
  rw [hv] at hV
  obtain ⟨rfl, rfl⟩ := trodVars_none hV
  simp only [List.append_nil] at hW' hfz hnd
  have := hrun.run W (fun _ => none) (Old W) args.toList (top_hrel W hG) hx
  simp only [Array.toArray_toList] at this
  refine this.mono ?_
  rintro en W' ⟨B', S', st, hr', he⟩
  have hb : Below W.heap.size W W' := st.below (fun b h => h)
  cases en with
  | returned v =>
    have hvv : v = .bool true := sc_eq he
    subst hvv
    have hlt : ∀ x ∈ p, x.block < W.heap.size := fun x hx => by simpa using hW'.lt x hx
    have hargsT := fun sp hsp => trodAll_below hl hb hr hA hlt sp hsp
    have hbool : ∀ (b : Nat) (sp : Nat → Bool) (hd : Bool), DataW.TrodAll e P W' b sp hd fn.resultTypes.toList ((Value.bool true).resultList fn.resultTypes.size) [.lit (.bool true)] [] := by
      intro b sp hd
      rw [hres]
      exact ⟨[], [], ⟨1, by simp [DataW.trod, Value.cells, htb]⟩, rfl, rfl⟩
    have hold : ∀ x ∈ p, (fun b => decide (b < W.heap.size)) x.block = true := fun x hx => by simpa using hlt x hx
    have hvs : ∀ (sp : Nat → Bool), DataW.TrodVars e P W' sp s.vars ([] : List (DataW H)) [] := by intro sp; rw [hv]; rfl
    refine ⟨_, rfl, ds, [], p, [], p, [], hW', ?_, ?_, ?_, ?_, fun _ => ⟨?_, ?_⟩⟩
    · simp only [List.append_nil, hspec]; exact hbool _ _ _
    · simp only [List.append_nil, hargs]; exact hargsT _ hold
    · simp only [List.append_nil, hvars]; exact hvs _
    · exact hb.frame _
    · intro j t r h1 h2
      rw [hres] at h1 h2
      match j, h1, h2 with
      | 0, h1, h2 =>
        simp [Value.resultList] at h1 h2
        subst h1; subst h2
        simp [Value.okWide, htb, Cell.okWide, Cell.ok]
    · refine ⟨.lit (.bool true) :: ds, [], [] ++ p ++ [], ⟨[] ++ p, [], trodAll_append (hargsT (fun _ => true) (fun _ _ => rfl)) (hbool _ _ _), hvs _, rfl, ?_, ?_⟩, ?_⟩
      · intro b off hp
        simp only [List.append_nil, List.nil_append] at hp
        have h1 := hlt _ hp
        rw [World.frozen?_of_block (w := W) (a := ⟨b, off, none⟩) (hb.block b h1)]
        exact hfz b off hp
      · intro ha; simpa using hnd ha
      · intro x hx _; simpa using hx
  | panicked c => exact he.elim
  | outgrown => exact he.elim
end
end Go.Proofs.Ytiifbdkedainnaa.AL
namespace Go.Proofs.Ytiifbdkedainnaa.AL
variable [G : GTab]
theorem Rd.le {P : Program} {β : (H : Type) → DataW H → Nat} {n m : Nat} {t : TypeId} {α : Type} {enc : α → List PV} {μ : α → Nat} {p : α → Prop} (R : Rd P β n t enc μ p) (h : m ≤ n) : Rd P β m t enc μ p :=
  fun hn hx hl => R (Nat.le_trans hn h) hx hl
theorem Rd.weak {P : Program} {β : (H : Type) → DataW H → Nat} {n : Nat} {t : TypeId} {α : Type} {enc : α → List PV} {μ μ' : α → Nat} {p p' : α → Prop} (R : Rd P β n t enc μ p) (h : ∀ a, μ' a ≤ μ a) (hp : ∀ a, p a → p' a) : Rd P β n t enc μ' p' := by
  intro H e w sp hd fuel cs x hn hx hl
  obtain ⟨a, h1, h2, h3⟩ := R hn hx hl
  exact ⟨a, h1, Nat.le_trans (h a) h2, hp a h3⟩
end Go.Proofs.Ytiifbdkedainnaa.AL

/- Weights of the language's data. -/
namespace Go.Proofs.Ytiifbdkedainnaa.AL
theorem nodesL_sum : ∀ l : List Ex, nodesL l = sumM nodes l
  | [] => rfl
  | e :: l => by simp only [nodesL, sumM, nodesL_sum l]
mutual
def wS : St → Nat
  | .mk _ _ _ a b t e => 1 + nodes a + nodes b + wSL t + wSL e
def wSL : List St → Nat
  | [] => 0
  | s :: ss => wS s + wSL ss
end
theorem wSL_sum : ∀ l : List St, wSL l = sumM wS l
  | [] => rfl
  | e :: l => by simp only [wSL, sumM, wSL_sum l]
theorem wS_eq (s : St) : wS s = 1 + nodes s.a + nodes s.b + wSL s.thn + wSL s.els := by cases s; rw [wS]; rfl
theorem many_le : ∀ s : St, many s ≤ wS s := by
  intro s
  induction s using St.ind with
  | h s h1 h2 =>
    have key : ∀ l : List St, (∀ k ∈ l, many k ≤ wS k) → manyL l ≤ wSL l := by
      intro l
      induction l with
      | nil => intro _; simp [manyL, wSL]
      | cons x xs ih => intro h; simp only [manyL, wSL]; have := h x (by simp); have := ih (fun k hk => h k (by simp [hk])); omega
    rw [many_eq, wS_eq]
    have := key _ h1; have := key _ h2
    split <;> omega
theorem manyL_le : ∀ l : List St, manyL l ≤ wSL l
  | [] => by simp [manyL, wSL]
  | s :: l => by simp only [manyL, wSL]; have := many_le s; have := manyL_le l; omega
theorem tot_le : ∀ s : St, tot s ≤ wS s := by
  intro s
  induction s using St.ind with
  | h s h1 h2 =>
    have key : ∀ l : List St, (∀ k ∈ l, tot k ≤ wS k) → totL l ≤ wSL l := by
      intro l
      induction l with
      | nil => intro _; simp [totL, wSL]
      | cons x xs ih => intro h; simp only [totL, wSL]; have := h x (by simp); have := ih (fun k hk => h k (by simp [hk])); omega
    rw [tot_eq, wS_eq]
    have := key _ h1; have := key _ h2
    omega
theorem totL_le : ∀ l : List St, totL l ≤ wSL l
  | [] => by simp [totL, wSL]
  | s :: l => by simp only [totL, wSL]; have := tot_le s; have := totL_le l; omega
def wV (v : Vr) : Nat := v.name.size + 5
def wP (p : Prg) : Nat := p.name.size + sumM wV p.vars + wSL p.on0 + wSL p.on1 + wSL p.on2 + wSL p.on3 + wSL p.on4 + 1
theorem len_sumM {α : Type} {μ : α → Nat} (h : ∀ a, 1 ≤ μ a) : ∀ l : List α, l.length ≤ sumM μ l
  | [] => by simp [sumM]
  | a :: l => by simp only [List.length_cons, sumM]; have := h a; have := len_sumM h l; omega
end Go.Proofs.Ytiifbdkedainnaa.AL

/- Plain laws: code for a stack machine: what is valid, how it runs. -/
set_option linter.unusedVariables false
namespace Go.Proofs.Ytiifbdkedainnaa.AL
structure Ins where
  op : Int
  n : Int
  rel : Int
  deriving DecidableEq
abbrev cI (x : Ins) : List PV := [.i x.op, .i x.n, .i x.rel]
def encI (x : Ins) : List PV := cI x
theorem encI_eq (x : Ins) : encI x = cI x := rfl
structure Cod where
  c0 : List Ins
  c1 : List Ins
  c2 : List Ins
  c3 : List Ins
  c4 : List Ins
abbrev cC (c : Cod) : List PV := [.rs 3 (c.c0.map encI), .rs 3 (c.c1.map encI), .rs 3 (c.c2.map encI), .rs 3 (c.c3.map encI), .rs 3 (c.c4.map encI)]
structure Cal where
  ev : Int
  i0 : Int
  i1 : Int
  i2 : Int
  i3 : Int
abbrev cL (c : Cal) : List PV := [.i c.ev, .i c.i0, .i c.i1, .i c.i2, .i c.i3]
abbrev rI (l : List Int) : List (List PV) := l.map fun n => [.i n]

def maxV : Int := 1000000000000
/-- An instruction is as it must be: index i, so many instructions, so many variables. -/
def insOk (x : Ins) (i len vars : Int) : Bool :=
  if x.op = 12 then decide (i < x.n ∧ x.n ≤ len ∧ 1 ≤ x.rel ∧ x.rel ≤ 6)
  else decide (x.rel = 0) && (if x.op = 1 then decide (-1000000000000 ≤ x.n ∧ x.n ≤ 1000000000000) else if x.op = 2 ∨ x.op = 11 then decide (0 ≤ x.n ∧ x.n < vars) else if x.op = 3 then decide (0 ≤ x.n ∧ x.n < 4)
    else if x.op = 13 then decide (i < x.n ∧ x.n ≤ len) else decide (x.n = 0 ∧ 4 ≤ x.op ∧ x.op ≤ 10))
def takes (op : Int) : Int := if op = 1 ∨ op = 2 ∨ op = 3 ∨ op = 13 then 0 else if op = 11 then 1 else 2
def puts (op : Int) : Int := if op = 11 ∨ op = 12 ∨ op = 13 then 0 else 1
theorem insOk_op {x : Ins} {i len vars : Int} (h : insOk x i len vars = true) : 1 ≤ x.op ∧ x.op ≤ 13 := by
  unfold insOk at h
  repeat' split at h
  all_goals simp at h
  all_goals omega

/-- A height is reached: none if it was another one. -/
def reachS (hs : List Int) (at' : Nat) (h : Int) : Option (List Int) := match hs[at']? with
  | none => none
  | some y => if y = -1 ∨ y = h then some (hs.set at' h) else none
/-- The heights behind one instruction; none if it is not valid. -/
def hStep (len vars : Int) (x : Ins) (i : Nat) (hs : List Int) : Option (List Int) := match hs[i]? with
  | none => none
  | some y => if y = -1 ∨ insOk x i len vars = false ∨ y < takes x.op then none else
    if 64 < y - takes x.op + puts x.op then none else
    if x.op = 12 then (match reachS hs x.n.toNat (y - takes x.op + puts x.op) with
      | none => none
      | some hs1 => reachS hs1 (i + 1) (y - takes x.op + puts x.op))
    else if x.op = 13 then reachS hs x.n.toNat (y - takes x.op + puts x.op)
    else reachS hs (i + 1) (y - takes x.op + puts x.op)
def hLoop (len vars : Int) : List Ins → Nat → List Int → Bool
  | [], i, hs => match hs[i]? with
    | some y => decide (y = 0)
    | none => false
  | x :: rest, i, hs => match hStep len vars x i hs with
    | none => false
    | some hs' => hLoop len vars rest (i + 1) hs'
def verH (l : List Ins) (vars : Int) : Bool := decide (l.length ≤ 4000) && hLoop l.length vars l 0 (0 :: List.replicate l.length (-1))
def verC (c : Cod) (vars : Int) : Bool := decide (0 ≤ vars ∧ vars ≤ 12) && (verH c.c0 vars && (verH c.c1 vars && (verH c.c2 vars && (verH c.c3 vars && verH c.c4 vars))))
theorem reachS_len {hs hs' : List Int} {a : Nat} {h : Int} (e : reachS hs a h = some hs') : hs'.length = hs.length := by
  unfold reachS at e
  split at e
  · cases e
  · split at e
    · simp only [Option.some.injEq] at e; subst e; simp
    · cases e
theorem hStep_len {len vars : Int} {x : Ins} {i : Nat} {hs hs' : List Int} (e : hStep len vars x i hs = some hs') : hs'.length = hs.length := by
  unfold hStep at e
  split at e
  · cases e
  · split at e
    · cases e
    · split at e
      · cases e
      · split at e
        · split at e
          · cases e
          · rename_i hs1 h1
            rw [reachS_len e, reachS_len h1]
        · split at e
          · exact reachS_len e
          · exact reachS_len e
end Go.Proofs.Ytiifbdkedainnaa.AL
namespace Go.Proofs.Ytiifbdkedainnaa.AL
def prodS (a b : Int) : Int := if a = 0 then 0 else if b < (-1000000000000 : Int).tdiv (if a < -a then -a else a) ∨ (1000000000000 : Int).tdiv (if a < -a then -a else a) < b then 1000000000001 else a * b
def downS (a b : Int) : Int := if a.tmod b ≠ 0 ∧ (decide (a < 0) != decide (b < 0)) = true then a.tdiv b - 1 else a.tdiv b
/-- A value, or the error of one. -/
def valS (n : Int) : Except Int Int := if -1000000000000 ≤ n ∧ n ≤ 1000000000000 then .ok n else .error 3
def calcS (op a b : Int) : Except Int Int :=
  if op = 4 then valS (a + b) else if op = 5 then valS (a - b) else if op = 6 then valS (prodS a b) else if op = 9 then valS (if b < a then b else a) else if op = 10 then valS (if a < b then b else a)
  else if b = 0 then .error 14 else if op = 8 then valS (-downS (-a) b) else valS (downS a b)
def holdsS (a rel b : Int) : Bool := if rel = 1 then decide (a < b) else if rel = 2 then decide (a ≤ b) else if rel = 3 then decide (b < a) else if rel = 4 then decide (b ≤ a) else if rel = 5 then a == b else a != b
abbrev isV (n : Int) : Prop := -1000000000000 ≤ n ∧ n ≤ 1000000000000
theorem tdiv_bd {a b : Int} (h : isV a) (hb : b ≠ 0) : isV (a.tdiv b) := by
  have h1 : (a.tdiv b).natAbs ≤ a.natAbs := by rw [Int.natAbs_tdiv]; exact Nat.div_le_self _ _
  omega
theorem downS_bd {a b : Int} (h : isV a) (hb : b ≠ 0) : -1000000000001 ≤ downS a b ∧ downS a b ≤ 1000000000000 := by
  have := tdiv_bd h hb
  unfold downS
  split <;> omega
end Go.Proofs.Ytiifbdkedainnaa.AL
namespace Go.Proofs.Ytiifbdkedainnaa.AL
theorem prod_fits {a b m : Int} (hm : (if a < -a then -a else a) = m) (hp : 0 < m) (h1 : (-1000000000000 : Int).tdiv m ≤ b) (h2 : b ≤ (1000000000000 : Int).tdiv m) : -1000000000000 ≤ a * b ∧ a * b ≤ 1000000000000 := by
  have hma : m = a ∨ m = -a := by rw [← hm]; split <;> omega
  have e0 : (1000000000000 : Int).tdiv m = 1000000000000 / m := Int.tdiv_eq_ediv_of_nonneg (by omega)
  have e1 : (1000000000000 : Int) / m * m ≤ 1000000000000 := Int.ediv_mul_le _ (by omega)
  have e2 : (-1000000000000 : Int).tdiv m = -((1000000000000 : Int).tdiv m) := Int.neg_tdiv _ _
  rw [e2, e0] at h1
  rw [e0] at h2
  generalize (1000000000000 : Int) / m = q at *
  have h3 := Int.mul_le_mul_of_nonneg_right h2 (show 0 ≤ m by omega)
  have h4 := Int.mul_le_mul_of_nonneg_right h1 (show 0 ≤ m by omega)
  rw [Int.neg_mul] at h4
  rcases hma with h | h
  · rw [h, Int.mul_comm b a] at h3 h4
    rw [h] at e1
    omega
  · rw [h] at h3 h4 e1
    simp only [Int.mul_neg, Int.neg_neg] at h3 h4 e1
    rw [Int.mul_comm b a] at h3 h4
    omega
end Go.Proofs.Ytiifbdkedainnaa.AL
namespace Go.Proofs.Ytiifbdkedainnaa.AL
theorem prodS_out {a b m : Int} (h0 : ¬ a = 0) (hm : (if a < -a then -a else a) = m) (h : b < (-1000000000000 : Int).tdiv m ∨ (1000000000000 : Int).tdiv m < b) : prodS a b = 1000000000001 := by
  unfold prodS; rw [if_neg h0, hm, if_pos h]
theorem prodS_in {a b m : Int} (h0 : ¬ a = 0) (hm : (if a < -a then -a else a) = m) (h : ¬ (b < (-1000000000000 : Int).tdiv m ∨ (1000000000000 : Int).tdiv m < b)) : prodS a b = a * b := by
  unfold prodS; rw [if_neg h0, hm, if_neg h]
end Go.Proofs.Ytiifbdkedainnaa.AL
namespace Go.Proofs.Ytiifbdkedainnaa.AL
theorem valS_ok {n v : Int} (h : valS n = .ok v) : isV n ∧ v = n := by
  unfold valS at h; split at h
  · cases h; exact ⟨by assumption, rfl⟩
  · cases h
theorem valS_err {n e : Int} (h : valS n = .error e) : ¬ isV n ∧ e = 3 := by
  unfold valS at h; split at h
  · cases h
  · cases h; exact ⟨by assumption, rfl⟩
theorem calcS_isV {op a b v : Int} (h : calcS op a b = .ok v) : isV v := by
  unfold calcS at h
  repeat' split at h
  all_goals first | (cases h; done) | (obtain ⟨hv, rfl⟩ := valS_ok h; exact hv)
end Go.Proofs.Ytiifbdkedainnaa.AL

/- Regions that draw and write a slot behind its reading (printed by genA28.py out of A13, A14): operations read from R, in which such slots stand as before. -/
set_option linter.unusedVariables false
set_option linter.unusedSectionVars false
set_option linter.unusedSimpArgs false
namespace Go.Proofs.Ytiifbdkedainnaa.AL
variable [G : GTab]

/-- Who reads such a slot comes before who writes it. -/
def lateOk (l : List Oper) (tab : List (List Nat)) (sm : List Tmp) : Bool :=
  (List.range l.length).all fun i => match l[i]? with
    | some o => (opTmps l o).all fun t => !(sm.contains t) || (List.range l.length).all fun j => opDst l j != some t || j == i || (tab.getD j []).contains i
    | none => true
theorem lateOk_spec {l : List Oper} {tab : List (List Nat)} {sm : List Tmp} (h : lateOk l tab sm = true) : ∀ (i : Nat) (o : Oper), l[i]? = some o → ∀ t ∈ opTmps l o, t ∈ sm → ∀ j, j < l.length → opDst l j = some t → j = i ∨ i ∈ tab.getD j [] := by
  intro i o ho t ht hs j hj hd
  unfold lateOk at h
  simp only [List.all_eq_true, List.mem_range] at h
  have := h i (List.getElem?_eq_some_iff.1 ho).1
  rw [ho] at this
  simp only [List.all_eq_true, Bool.or_eq_true, Bool.not_eq_true', List.contains_iff_mem, List.mem_range, bne_iff_ne, beq_iff_eq] at this
  rcases this t ht with h1 | h1
  · have : sm.contains t = true := by simpa using hs
    rw [this] at h1; cases h1
  · rcases h1 j hj with (h2 | h2) | h2
    · exact absurd hd h2
    · exact .inl h2
    · exact .inr h2
/-- An operation comes to what is foretold: v to its slot, memory H'. -/
def OpGoodR (P : Program) (l : List Oper) (R T : List AV) (H : List AObj) (o : Oper) (H' : List AObj) : Prop :=
  match aWanted l R o with
  | some false => (∀ d, o.dst = some d → T[d]? = some (.tup [])) ∧ H' = H
  | some true => match aStep P R H o with
    | .next v H1 => (∀ d, o.dst = some d → T[d]? = some v) ∧ H' = H1
    | .run => aConcs R o = true ∧ ∃ r : Value, (∀ w, (execOp (aRho R) o).run P w = .ok (.value r) w) ∧ (∀ d, o.dst = some d → T[d]? = some (.ofV r)) ∧ H' = H
    | .enter f args => ∃ v, ARun P f args H (.ret v H') ∧ ∀ d, o.dst = some d → T[d]? = some v
    | .pan _ => False
  | none => False

/-- An operation that panics. -/
def PanGoodR (P : Program) (l : List Oper) (R T : List AV) (Q : AEx → List AV → List AObj → Prop) (H : List AObj) (o : Oper) : Prop :=
  match aWanted l R o with
  | some true => match aStep P R H o with
    | .pan x => ∀ tm', Q (.pan x) tm' H
    | .enter f args => ∃ x H', ARun P f args H (.pan x H') ∧ ∀ tm', Q (.pan x) tm' H'
    | _ => False
  | _ => False

/-- bad: the operations that panic; what stands behind them is never carried out. -/
def GoodFromR (P : Program) (l : List Oper) (R T : List AV) (Hs : List (List AObj)) (effs : List Nat) (wins : List (Nat × Nat)) (tab : List (List Nat)) (bad : List Nat) (Q : AEx → List AV → List AObj → Prop) : Nat → List Oper → Prop
  | _, [] => True
  | i, o :: rest => (if (bad.any fun b => (tab.getD i []).contains b) = true then True else if bad.contains i then
        (if effs.contains i then PanGoodR P l R T Q (Hs.getD (effs.idxOf i) []) o else ∀ j ∈ List.range' (wins.getD i (0, 0)).1 ((wins.getD i (0, 0)).2 + 1 - (wins.getD i (0, 0)).1), PanGoodR P l R T Q (Hs.getD j []) o)
      else if effs.contains i then OpGoodR P l R T (Hs.getD (effs.idxOf i) []) o (Hs.getD (effs.idxOf i + 1) []) else
      ∀ j ∈ List.range' (wins.getD i (0, 0)).1 ((wins.getD i (0, 0)).2 + 1 - (wins.getD i (0, 0)).1), OpGoodR P l R T (Hs.getD j []) o (Hs.getD j [])) ∧ GoodFromR P l R T Hs effs wins tab bad Q (i + 1) rest

theorem GoodFromR.get {P : Program} {l : List Oper} {R T : List AV} {Hs : List (List AObj)} {effs : List Nat} {wins : List (Nat × Nat)} {tab : List (List Nat)} {bad : List Nat} {Q : AEx → List AV → List AObj → Prop} : ∀ {i : Nat} {rest : List Oper}, GoodFromR P l R T Hs effs wins tab bad Q i rest →
    ∀ k o, rest[k]? = some o → (∀ b ∈ bad, b ∉ tab.getD (i + k) []) → (effs.contains (i + k) = true → if bad.contains (i + k) then PanGoodR P l R T Q (Hs.getD (effs.idxOf (i + k)) []) o else OpGoodR P l R T (Hs.getD (effs.idxOf (i + k)) []) o (Hs.getD (effs.idxOf (i + k) + 1) [])) ∧
      (effs.contains (i + k) = false → ∀ j, (wins.getD (i + k) (0, 0)).1 ≤ j → j ≤ (wins.getD (i + k) (0, 0)).2 → if bad.contains (i + k) then PanGoodR P l R T Q (Hs.getD j []) o else OpGoodR P l R T (Hs.getD j []) o (Hs.getD j []))
  | i, [], _, k, o, h, _ => by simp at h
  | i, x :: rest, g, k, o, h, hb => by
    obtain ⟨g1, g2⟩ := g
    cases k with
    | zero =>
      simp only [List.getElem?_cons_zero, Option.some.injEq] at h
      subst h
      simp only [Nat.add_zero] at hb ⊢
      rw [if_neg (by simp only [List.any_eq_true, List.contains_iff_mem, not_exists, not_and]; exact hb)] at g1
      constructor
      · intro hc
        split
        · rename_i hbc; rw [if_pos hbc, if_pos hc] at g1; exact g1
        · rename_i hbc; rw [if_neg hbc, if_pos hc] at g1; exact g1
      · intro hc j h1 h2
        have hm : j ∈ List.range' (wins.getD i (0, 0)).1 ((wins.getD i (0, 0)).2 + 1 - (wins.getD i (0, 0)).1) := by rw [List.mem_range'_1]; omega
        split
        · rename_i hbc; rw [if_pos hbc, if_neg (by rw [hc]; simp)] at g1; exact g1 j hm
        · rename_i hbc; rw [if_neg hbc, if_neg (by rw [hc]; simp)] at g1; exact g1 j hm
    | succ k =>
      simp only [List.getElem?_cons_succ] at h
      have := g2.get k o h (by rw [show i + 1 + k = i + (k + 1) by omega]; exact hb)
      rw [show i + 1 + k = i + (k + 1) by omega] at this
      exact this


section
variable {P : Program} {l : List Oper} {tab : List (List Nat)} {effs : List Nat} {wins : List (Nat × Nat)} {bad : List Nat} {T tm0 : List AV} {Hs : List (List AObj)}
  {w0 : World} {B0 : BMap} {S0 : Nat → Prop} {H0 : List AObj} {D : List Deferred} {Q : AEx → List AV → List AObj → Prop}
theorem opgood_opR {sm : List Tmp} {R : List AV} (hlate : lateOk l tab sm = true) (hR1 : ∀ t ∈ sm, R[t]? = tm0[t]?) (hR2 : ∀ t, t ∉ sm → R[t]? = T[t]?) {tm : List AV} {listed : Array Bool} {j : Nat} (hk : DOk l tab effs wins sm) (inv : DInv l tab effs T tm0 listed j tm) {i : Nat} {o : Oper} (hi : l[i]? = some o)
    (hnot : ¬ Lst listed i) (hanc : ∀ k ∈ tab.getD i [], Lst listed k) (hT : ∀ s, (∀ i, i < l.length → opDst l i ≠ some s) → T[s]? = tm0[s]?) :
    (∀ x ∈ o.op.operands, aev tm x = aev R x) ∧ aWanted l tm o = aWanted l R o := by
  have slot : ∀ t ∈ opTmps l o, tm[t]? = R[t]? := by
    intro t ht
    have hil : i < l.length := (List.getElem?_eq_some_iff.1 hi).1
    by_cases hs : t ∈ sm
    · rw [hR1 t hs]
      refine inv.rest t (fun k hk' hd' => ?_)
      have hlt : k < l.length := by
        unfold opDst at hd'
        cases hx : l[k]? with
        | none => rw [hx] at hd'; cases hd'
        | some o' => exact (List.getElem?_eq_some_iff.1 hx).1
      rcases lateOk_spec hlate i o hi t ht hs k hlt hd' with he | hm
      · subst he; exact hnot hk'
      · exact hnot (inv.closed k hk' i hm)
    · rw [hR2 t hs]
      by_cases hw : ∃ k, k < l.length ∧ opDst l k = some t
      · obtain ⟨k, hk1, hk2⟩ := hw
        rcases hk.tmps i o hi t ht k hk1 hk2 with hm | hm
        · exact inv.done k t (hanc k hm) hk2
        · exact absurd hm hs
      · have h1 : ∀ k, k < l.length → opDst l k ≠ some t := fun k hk1 hk2 => hw ⟨k, hk1, hk2⟩
        rw [hT t h1]
        refine inv.rest t (fun k _ hk2 => ?_)
        have : k < l.length := by
          unfold opDst at hk2
          cases hx : l[k]? with
          | none => rw [hx] at hk2; cases hk2
          | some o' => exact (List.getElem?_eq_some_iff.1 hx).1
        exact h1 k this hk2
  constructor
  · intro x hx
    refine aev_congr (fun t e => slot t ?_)
    subst e
    unfold opTmps
    exact List.mem_append_left _ (List.mem_filterMap.2 ⟨.tmp t, by simpa using hx, rfl⟩)
  · unfold aWanted
    cases hg : o.guard with
    | none => rfl
    | some jw =>
      obtain ⟨g, want⟩ := jw
      simp only
      cases hd : (l[g]?).bind (·.dst) with
      | none => rfl
      | some d =>
        simp only
        rw [slot d ?_]
        unfold opTmps
        refine List.mem_append_right _ ?_
        rw [hg]
        simp only [opDst, hd, Option.toList_some, List.mem_singleton]

theorem draw_auxR {sm : List Tmp} {R : List AV} (hlate : lateOk l tab sm = true) (hR1 : ∀ t ∈ sm, R[t]? = tm0[t]?) (hR2 : ∀ t, t ∉ sm → R[t]? = T[t]?) (hk : DOk l tab effs wins sm) (hbad : ∀ b ∈ bad, b < l.length) (good : GoodFromR P l R T Hs effs wins tab bad Q 0 l) (hT : ∀ s, (∀ i, i < l.length → opDst l i ≠ some s) → T[s]? = tm0[s]?) (hTl : T.length = tm0.length)
    (hQ : bad = [] → Q .normal T (Hs.getD effs.length [])) : ∀ (fuel : Nat) (listed : Array Bool) (j : Nat) (tm : List AV) (a : Act) (w : World) (B : BMap) (S : Nat → Prop),
      DInv l tab effs T tm0 listed j tm → (∀ b ∈ bad, ¬ Lst listed b) → Sim w0 B0 S0 H0 D tm (Hs.getD j []) a w B S → ((List.range l.length).filter fun i => !listed.getD i false).length ≤ fuel →
      wpAny P .any l.toArray (LiftQ w0 B0 S0 H0 D Q) fuel listed a w := by
  have atEnd : ∀ (listed : Array Bool) (j : Nat) (tm : List AV) (a : Act) (w : World) (B : BMap) (S : Nat → Prop), DInv l tab effs T tm0 listed j tm → (∀ b ∈ bad, ¬ Lst listed b) → Sim w0 B0 S0 H0 D tm (Hs.getD j []) a w B S →
      (∀ i, i < l.length → Lst listed i) → LiftQ w0 B0 S0 H0 D Q .normal a w := by
    intro listed j tm a w B S inv hnb s hall
    have hbn : bad = [] := by
      cases hb : bad with
      | nil => rfl
      | cons b bs => exact absurd (hall b (hbad b (by rw [hb]; simp))) (hnb b (by rw [hb]; simp))
    have hj : j = effs.length := by
      rcases Nat.lt_or_ge j effs.length with h | h
      · exfalso
        have hm : effs[j] ∈ effs := List.getElem_mem h
        have := (inv.ef _ hm).1 (hall _ (hk.lt _ hm))
        obtain ⟨k, hk1, hk2⟩ := List.mem_take_iff_getElem.1 this
        have := (List.getElem_inj hk.nodup).1 hk2
        omega
      · have := inv.jle; omega
    subst hj
    have htm : tm = T := by
      apply List.ext_getElem?
      intro d
      by_cases hw : ∃ k, k < l.length ∧ opDst l k = some d
      · obtain ⟨k, hk1, hk2⟩ := hw
        exact inv.done k d (hall k hk1) hk2
      · rw [hT d (fun k hk1 hk2 => hw ⟨k, hk1, hk2⟩)]
        refine inv.rest d (fun k _ hk2 => ?_)
        have : k < l.length := by
          unfold opDst at hk2
          cases hx : l[k]? with
          | none => rw [hx] at hk2; cases hk2
          | some o' => exact (List.getElem?_eq_some_iff.1 hx).1
        exact hw ⟨k, this, hk2⟩
    subst htm
    exact ⟨.normal, tm, _, B, S, hQ hbn, s, trivial⟩
  intro fuel
  induction fuel with
  | zero =>
    intro listed j tm a w B S inv hnb s hf
    have hall : ∀ i, i < l.length → Lst listed i := by
      intro i hi
      have hnil : ((List.range l.length).filter fun i => !listed.getD i false) = [] := List.eq_nil_of_length_eq_zero (by omega)
      rw [List.filter_eq_nil_iff] at hnil
      have := hnil i (by simpa using hi)
      simpa [Lst] using this
    refine ⟨?_, atEnd listed j tm a w B S inv hnb s hall⟩
    cases hr : Region.ready .any l.toArray listed with
    | nil => rfl
    | cons i rs =>
      exfalso
      have hm : i ∈ Region.ready .any l.toArray listed := by rw [hr]; simp
      obtain ⟨h1, h2, _⟩ := mem_ready' hm
      have := hall i h2
      unfold Lst at this
      simp only [Array.getD_eq_getD_getElem?] at this h1
      have hlt : i < listed.size := by rw [inv.size]; exact h2
      simp only [Array.getElem?_eq_getElem hlt, Option.getD_some] at this h1
      rw [this] at h1; cases h1
  | succ fuel ih =>
    intro listed j tm a w B S inv hnb s hf
    refine ⟨fun hr => atEnd listed j tm a w B S inv hnb s (ready_of hk inv.size hr), ?_⟩
    intro i hi
    obtain ⟨hun, hil, haft⟩ := mem_ready' hi
    have hlt : i < listed.size := by rw [inv.size]; exact hil
    have hnot : ¬ Lst listed i := by
      unfold Lst
      simp only [Array.getD_eq_getD_getElem?, Array.getElem?_eq_getElem hlt, Option.getD_some] at hun ⊢
      rw [hun]; simp
    obtain ⟨o, ho⟩ : ∃ o, l[i]? = some o := ⟨l[i], List.getElem?_eq_getElem hil⟩
    have hanc : ∀ k ∈ tab.getD i [], Lst listed k := by
      intro k hk'
      obtain ⟨e, he, hke⟩ := hk.anc i hil k hk'
      rcases hke with rfl | hke
      · exact haft k he
      · exact inv.closed e (haft e he) k hke
    obtain ⟨hev, hwant⟩ := opgood_opR hlate hR1 hR2 hk inv ho hnot hanc hT
    -- the next stage
    have hnanc : ∀ b ∈ bad, b ∉ tab.getD (0 + i) [] := by intro b hb hm; rw [Nat.zero_add] at hm; exact hnb b hb (hanc b hm)
    have hoi : (l.toArray)[i]? = some o := by simpa using ho
    by_cases hib : bad.contains i = true
    · have hpan : PanGoodR P l R T Q (Hs.getD j []) o := by
        obtain ⟨g1, g2⟩ := good.get i o ho hnanc
        simp only [Nat.zero_add, hib, if_true] at g1 g2
        by_cases hie : i ∈ effs
        · have hidx : effs.idxOf i < effs.length := List.idxOf_lt_length_of_mem hie
          have hix : effs[effs.idxOf i] = i := List.getElem_idxOf hidx
          have hle : effs.idxOf i ≤ j := by
            rcases Nat.lt_or_ge j (effs.idxOf i) with h | h
            · exfalso
              have hjl : j < effs.length := by omega
              have hm : effs[j] ∈ effs.take (effs.idxOf i) := List.mem_take_iff_getElem.2 ⟨j, by omega, rfl⟩
              have h1 := hanc _ (hk.ord i hil hie _ hm)
              have h2 := (inv.ef _ (List.getElem_mem hjl)).1 h1
              obtain ⟨k, hk1, hk2⟩ := List.mem_take_iff_getElem.1 h2
              have := (List.getElem_inj hk.nodup).1 hk2
              omega
            · exact h
          have hge : j ≤ effs.idxOf i := by
            rcases Nat.lt_or_ge (effs.idxOf i) j with h | h
            · exfalso
              exact hnot ((inv.ef i hie).2 (List.mem_take_iff_getElem.2 ⟨effs.idxOf i, by omega, hix⟩))
            · exact h
          have hje : j = effs.idxOf i := by omega
          have := g1 (by simpa using hie)
          rw [← hje] at this; exact this
        · refine g2 (by simpa using hie) j ?_ ?_
          · rw [hk.win i hil]
            refine filter_len hk.nodup (fun e he hc => ?_)
            exact (inv.ef e he).1 (hanc e (by simpa using hc))
          · rw [hk.win i hil]
            rcases Nat.lt_or_ge (winHi tab effs i) j with h | h
            · exfalso
              obtain ⟨e, he, hpe⟩ := takeWhile_len (p := fun e => !(tab.getD e []).contains i) effs j h inv.jle
              have hee : e ∈ effs := List.mem_of_mem_take he
              have h1 := (inv.ef e hee).2 he
              have h2 : i ∈ tab.getD e [] := by simpa using hpe
              exact hnot (inv.closed e h1 i h2)
            · exact h
      unfold wpOp
      rw [hoi]
      simp only
      unfold PanGoodR at hpan
      cases hw : aWanted l R o with
      | none => rw [hw] at hpan; exact hpan.elim
      | some b =>
        rw [hw] at hpan
        rw [s.wanted (hwant.trans hw)]
        cases b with
        | false => exact hpan.elim
        | true =>
          simp only at hpan
          simp only [if_true]
          refine .inl ?_
          have hstep : aStep P tm (Hs.getD j []) o = aStep P R (Hs.getD j []) o := aStep_congr hev
          cases hs : aStep P R (Hs.getD j []) o with
          | next v H1 => rw [hs] at hpan; exact hpan.elim
          | run => rw [hs] at hpan; exact hpan.elim
          | pan x =>
            rw [hs] at hpan
            simp only at hpan
            obtain ⟨v, hrun, hx⟩ := step_pan s (hstep.trans hs)
            unfold Oper.wp
            rw [hrun]
            exact ⟨.pan x, tm, _, B, S, hpan tm, s, v, rfl, hx⟩
          | enter f args =>
            rw [hs] at hpan
            simp only at hpan
            obtain ⟨x, H', ⟨hcall, hrunA⟩, hq⟩ := hpan
            obtain ⟨vs, hrun, hargs⟩ := enter_args s (hstep.trans hs) hcall
            unfold Oper.wp
            rw [hrun]
            refine (hrunA w B S vs s.hrel hargs).mono (fun e w' hew => ?_)
            obtain ⟨B', S', st, hr, he⟩ := hew
            cases e with
            | returned v => exact he.elim
            | panicked c => exact ⟨.pan x, tm, H', B', S', hq tm, s.mono st hr, he⟩
            | outgrown => exact he.elim
    obtain ⟨j', hj', hgood, hef'⟩ : ∃ j', j' ≤ effs.length ∧ OpGoodR P l R T (Hs.getD j []) o (Hs.getD j' []) ∧ (∀ e ∈ effs, (e = i ∨ Lst listed e ↔ e ∈ effs.take j')) := by
      obtain ⟨g1, g2⟩ := good.get i o ho hnanc
      simp only [Nat.zero_add] at g1 g2
      simp only [if_neg hib] at g1 g2
      by_cases hie : i ∈ effs
      · have hidx : effs.idxOf i < effs.length := List.idxOf_lt_length_of_mem hie
        have hix : effs[effs.idxOf i] = i := List.getElem_idxOf hidx
        have hle : effs.idxOf i ≤ j := by
          rcases Nat.lt_or_ge j (effs.idxOf i) with h | h
          · exfalso
            have hjl : j < effs.length := by omega
            have hm : effs[j] ∈ effs.take (effs.idxOf i) := List.mem_take_iff_getElem.2 ⟨j, by omega, rfl⟩
            have h1 := hanc _ (hk.ord i hil hie _ hm)
            have h2 := (inv.ef _ (List.getElem_mem hjl)).1 h1
            obtain ⟨k, hk1, hk2⟩ := List.mem_take_iff_getElem.1 h2
            have := (List.getElem_inj hk.nodup).1 hk2
            omega
          · exact h
        have hge : j ≤ effs.idxOf i := by
          rcases Nat.lt_or_ge (effs.idxOf i) j with h | h
          · exfalso
            exact hnot ((inv.ef i hie).2 (List.mem_take_iff_getElem.2 ⟨effs.idxOf i, by omega, hix⟩))
          · exact h
        have hje : j = effs.idxOf i := by omega
        refine ⟨j + 1, by omega, ?_, ?_⟩
        · have := g1 (by simpa using hie)
          rw [← hje] at this; exact this
        · intro e he
          have hjl : j < effs.length := by omega
          have htake : effs.take (j + 1) = effs.take j ++ [i] := by
            rw [List.take_succ_eq_append_getElem hjl]
            congr 2
            have : effs[j] = effs[effs.idxOf i] := by congr 1
            rw [this, hix]
          rw [htake, List.mem_append, List.mem_singleton, inv.ef e he, Or.comm]
      · refine ⟨j, inv.jle, ?_, ?_⟩
        · refine g2 (by simpa using hie) j ?_ ?_
          · rw [hk.win i hil]
            refine filter_len hk.nodup (fun e he hc => ?_)
            exact (inv.ef e he).1 (hanc e (by simpa using hc))
          · rw [hk.win i hil]
            rcases Nat.lt_or_ge (winHi tab effs i) j with h | h
            · exfalso
              obtain ⟨e, he, hpe⟩ := takeWhile_len (p := fun e => !(tab.getD e []).contains i) effs j h inv.jle
              have hee : e ∈ effs := List.mem_of_mem_take he
              have h1 := (inv.ef e hee).2 he
              have h2 : i ∈ tab.getD e [] := by simpa using hpe
              exact hnot (inv.closed e h1 i h2)
            · exact h
        · intro e he
          rw [← inv.ef e he]
          constructor
          · rintro (rfl | h)
            · exact absurd he hie
            · exact h
          · exact .inr
    -- the state behind it
    have next : ∀ (v : AV), (∀ d, o.dst = some d → T[d]? = some v) → DInv l tab effs T tm0 (listed.setIfInBounds i true) j' (aput tm o.dst v) := by
      intro v hv
      have hdi : opDst l i = o.dst := by unfold opDst; rw [ho]; rfl
      refine ⟨by simpa using inv.size, ?_, ?_, hj', ?_, ?_, ?_⟩
      · intro k hk1 k' hk2
        rw [lst_set hlt] at hk1 ⊢
        rcases hk1 with rfl | hk1
        · exact .inr (hanc k' hk2)
        · exact .inr (inv.closed k hk1 k' hk2)
      · intro e he
        rw [lst_set hlt]
        exact hef' e he
      · cases o.dst <;> simp [aput, inv.len]
      · intro k d hk1 hd
        rw [lst_set hlt] at hk1
        cases hod : o.dst with
        | none =>
          simp only [aput]
          rcases hk1 with rfl | hk1
          · rw [hdi, hod] at hd; cases hd
          · exact inv.done k d hk1 hd
        | some d' =>
          simp only [aput]
          by_cases e : d' = d
          · subst e
            have hTd := hv d' hod
            rw [hTd]
            have : d' < tm.length := by rw [inv.len, ← hTl]; exact (List.getElem?_eq_some_iff.1 hTd).1
            simp [this]
          · rw [List.getElem?_set, if_neg e]
            rcases hk1 with rfl | hk1
            · rw [hdi, hod] at hd; simp only [Option.some.injEq] at hd; exact absurd hd e
            · exact inv.done k d hk1 hd
      · intro d hd
        have h1 : o.dst ≠ some d := by
          have := hd i ((lst_set hlt).2 (.inl rfl))
          rwa [hdi] at this
        have h2 : ∀ k, Lst listed k → opDst l k ≠ some d := fun k hk' => hd k ((lst_set hlt).2 (.inr hk'))
        cases hod : o.dst with
        | none => simp only [aput]; exact inv.rest d h2
        | some d' =>
          simp only [aput]
          rw [List.getElem?_set, if_neg (fun e => h1 (by rw [hod, e]))]
          exact inv.rest d h2
    have hfuel : ((List.range l.length).filter fun k => !(listed.setIfInBounds i true).getD k false).length ≤ fuel := by
      have hsub : ((List.range l.length).filter fun k => !(listed.setIfInBounds i true).getD k false) = ((List.range l.length).filter fun k => !listed.getD k false).filter (fun k => k != i) := by
        rw [List.filter_filter]
        apply List.filter_congr
        intro k hk'
        have := lst_set (listed := listed) (i := i) (k := k) hlt
        unfold Lst at this
        by_cases e : k = i
        · subst e
          have h := this.2 (.inl rfl)
          rw [h]; simp
        · have h : (listed.setIfInBounds i true).getD k false = listed.getD k false := by
            rw [Bool.eq_iff_iff, this]
            constructor
            · rintro (h | h)
              · exact absurd h e
              · exact h
            · exact .inr
          rw [h]; simp [e]
      rw [hsub]
      have hmem : i ∈ (List.range l.length).filter fun k => !listed.getD k false := by
        rw [List.mem_filter]
        refine ⟨by simpa using hil, ?_⟩
        unfold Lst at hnot
        simpa using hnot
      have hlt' : (((List.range l.length).filter fun k => !listed.getD k false).filter (fun k => k != i)).length < ((List.range l.length).filter fun k => !listed.getD k false).length := by
        apply List.length_filter_lt_length_iff_exists.2
        exact ⟨i, hmem, by simp⟩
      omega
    have go : ∀ (v : AV) (x : Value) (w' : World) (B' : BMap) (S' : Nat → Prop), (∀ d, o.dst = some d → T[d]? = some v) → Sim w0 B0 S0 H0 D tm (Hs.getD j' []) a w' B' S' → ARel w' B' S' (Hs.getD j' []) v x →
        wpAny P .any l.toArray (LiftQ w0 B0 S0 H0 D Q) fuel (listed.setIfInBounds i true) (a.put o.dst x) w' := by
      intro v x w' B' S' hv s' hx
      refine ih _ j' _ _ _ _ _ (next v hv) (fun b hb hl => ?_) (s'.put o.dst hx) hfuel
      rw [lst_set hlt] at hl
      rcases hl with rfl | hl
      · exact hib (by simpa using hb)
      · exact hnb b hb hl
    unfold wpOp
    rw [hoi]
    simp only
    unfold OpGoodR at hgood
    cases hw : aWanted l R o with
    | none => rw [hw] at hgood; exact hgood.elim
    | some b =>
      rw [hw] at hgood
      rw [s.wanted (hwant.trans hw)]
      cases b with
      | false =>
        simp only at hgood
        simp only [Bool.false_eq_true, if_false]
        obtain ⟨h1, h2⟩ := hgood
        exact go (.tup []) undef w B S h1 (by rw [h2]; exact s) (by rw [h2]; exact undef_rel)
      | true =>
        simp only at hgood
        simp only [if_true]
        refine .inl ?_
        have hstep : aStep P tm (Hs.getD j []) o = aStep P R (Hs.getD j []) o := aStep_congr hev
        cases hs : aStep P R (Hs.getD j []) o with
        | next v H1 =>
          rw [hs] at hgood
          simp only at hgood
          obtain ⟨h1, h2⟩ := hgood
          obtain ⟨r, w', B', S', hrun, st, hr, hv⟩ := step_next s.hrel s.ev (hstep.trans hs)
          rw [← h2] at st hr hv
          have s' := s.mono st hr
          unfold Oper.wp
          rcases hrun with hrun | ⟨hrun, rfl⟩
          · rw [hrun]; exact go v r w' B' S' h1 s' hv
          · rw [hrun]; exact go v undef w' B' S' h1 s' hv
        | pan x => rw [hs] at hgood; exact hgood.elim
        | enter f args =>
          rw [hs] at hgood
          simp only at hgood
          obtain ⟨v, ⟨hcall, hrunA⟩, h1⟩ := hgood
          obtain ⟨vs, hrun, hargs⟩ := enter_args s (hstep.trans hs) hcall
          unfold Oper.wp
          rw [hrun]
          refine (hrunA w B S vs s.hrel hargs).mono (fun e w' hew => ?_)
          obtain ⟨B', S', st, hr, he⟩ := hew
          cases e with
          | returned x => exact go v x w' B' S' h1 (s.mono st hr) he
          | panicked c => exact he.elim
          | outgrown => exact he.elim
        | run =>
          rw [hs] at hgood
          simp only at hgood
          obtain ⟨hc, r, hrun, h1, h2⟩ := hgood
          have hsel := hk.sel i o ho
          rcases aConcs_congr (tm := tm) (tm' := R) hev with ⟨e1, e2⟩ | e
          · have heq : execOp a.eval o = execOp (aRho tm) o := run_eq s (by rw [e1]; exact hc) hsel
            unfold Oper.wp
            rw [heq, e2, hrun w]
            exact go (.ofV r) r w B S h1 (by rw [h2]; exact s) (by rw [h2]; exact .ofV r)
          · rw [hsel] at e; cases e
end
section
variable {P : Program} {w0 : World} {B0 : BMap} {S0 : Nat → Prop} {H0 : List AObj} {D : List Deferred} {Q : AEx → List AV → List AObj → Prop} {tm : List AV} {H : List AObj} {a : Act} {w : World} {B : BMap} {S : Nat → Prop}
theorem awp_drawBR {id : Nat} {l : List Oper} {R T : List AV} (effs bad : List Nat) (wins : List (Nat × Nat)) (Hs : List (List AObj)) (hm : P.follows .mixedOrders = true)
    (sm : List Tmp) (hok : drawOk l (ancTab l) effs wins sm = true) (hlate : lateOk l (ancTab l) sm = true) (hR1 : ∀ t ∈ sm, R[t]? = tm[t]?) (hR2 : ∀ t, t ∉ sm → R[t]? = T[t]?) (hbad : ∀ b ∈ bad, b < l.length)
    (hlen : T.length = tm.length) (hne : ∀ s, (∀ o ∈ l, o.dst ≠ some s) → T[s]? = tm[s]?)
    (hH : Hs.getD 0 [] = H) (good : GoodFromR P l R T Hs effs wins (ancTab l) bad Q 0 l)
    (hQ : bad = [] → Q .normal T (Hs.getD effs.length [])) : AWP P H0 (.region id l.toArray true) Q tm H := by
  intro w0 B0 S0 D a w B S s
  subst hH
  have hk := drawOk_spec hok
  refine wp_region_any hm ?_
  have hT : ∀ s, (∀ i, i < l.length → opDst l i ≠ some s) → T[s]? = tm[s]? := by
    intro s hs
    refine hne s (fun o ho hd => ?_)
    obtain ⟨i, hi, rfl⟩ := List.mem_iff_getElem.1 ho
    exact hs i hi (by unfold opDst; rw [List.getElem?_eq_getElem hi]; exact hd)
  have hnone : ∀ i, ¬ Lst (Array.replicate l.length false) i := by
    intro i hi
    unfold Lst at hi
    simp only [Array.getD_eq_getD_getElem?, Array.getElem?_replicate] at hi
    split at hi <;> simp at hi
  have := draw_auxR (P := P) (w0 := w0) (B0 := B0) (S0 := S0) (H0 := H0) (D := D) (Q := Q) (tm0 := tm) (bad := bad) (sm := sm) hlate hR1 hR2 hk hbad good hT hlen hQ l.length (Array.replicate l.length false) 0 tm a { w with drawn := w.drawn + 1 } B S
    ⟨by simp, fun i hi => absurd hi (hnone i), fun e _ => by simp [hnone e], Nat.zero_le _, rfl, fun i d hi => absurd hi (hnone i), fun d _ => rfl⟩ (fun b _ => hnone b) s.drawn
    (by exact Nat.le_trans (List.length_filter_le _ _) (by simp))
  simpa using this

def OGXR (P : Program) (R T : List AV) (o : Oper) (H H' : List AObj) : Prop := aConcs R o = true ∧ ∃ r : Value, (∀ w, (execOp (aRho R) o).run P w = .ok (.value r) w) ∧ DstIs T o.dst (.ofV r) ∧ H' = H
def OGRR (P : Program) (R T : List AV) (o : Oper) (H H' : List AObj) : ARes → Prop
  | .next v H1 => DstIs T o.dst v ∧ H' = H1
  | .run => OGXR P R T o H H'
  | .enter f args => OGE P T o.dst H H' f args
  | .pan _ => False
def OGWR (P : Program) (R T : List AV) (o : Oper) (H H' : List AObj) : Option Bool → Prop
  | some true => OGRR P R T o H H' (aStep P R H o)
  | some false => DstIs T o.dst (.tup []) ∧ H' = H
  | none => False
theorem opGoodR_of {l : List Oper} {R T : List AV} {H H' : List AObj} {o : Oper} (h : OGWR P R T o H H' (aWanted l R o)) : OpGoodR P l R T H o H' := by
  unfold OpGoodR
  cases hw : aWanted l R o with
  | none => rw [hw] at h; exact h
  | some b =>
    rw [hw] at h
    cases b with
    | false => exact ⟨h.1.all, h.2⟩
    | true =>
      simp only [OGWR] at h ⊢
      cases hs : aStep P R H o with
      | next v H1 => rw [hs] at h; exact ⟨h.1.all, h.2⟩
      | run => rw [hs] at h; obtain ⟨h1, r, h2, h3, h4⟩ := h; exact ⟨h1, r, h2, h3.all, h4⟩
      | enter f args => rw [hs] at h; obtain ⟨v, h1, h2⟩ := h; exact ⟨v, h1, h2.all⟩
      | pan x => rw [hs] at h; exact h
theorem panGoodR_of {l : List Oper} {R T : List AV} {H : List AObj} {o : Oper} (h : PGW P R Q H o (aWanted l R o)) : PanGoodR P l R T Q H o := by
  unfold PanGoodR
  cases hw : aWanted l R o with
  | none => rw [hw] at h; exact h
  | some b =>
    rw [hw] at h
    cases b with
    | false => exact h
    | true =>
      simp only [PGW] at h ⊢
      cases hs : aStep P R H o with
      | enter f args => rw [hs] at h; exact h
      | pan x => rw [hs] at h; exact h
      | _ => rw [hs] at h; exact h

def GoodPR (P : Program) (l : List Oper) (R T : List AV) (Q : AEx → List AV → List AObj → Prop) (Hs : List (List AObj)) : List OpPlan → List Oper → Prop
  | .skip :: ps, _ :: rest => GoodPR P l R T Q Hs ps rest
  | .pan js :: ps, o :: rest => AllAt Hs (fun H => PGW P R Q H o (aWanted l R o)) js ∧ GoodPR P l R T Q Hs ps rest
  | .eff j :: ps, o :: rest => OGWR P R T o (Hs.getD j []) (Hs.getD (j + 1) []) (aWanted l R o) ∧ GoodPR P l R T Q Hs ps rest
  | .win js :: ps, o :: rest => AllAt Hs (fun H => OGWR P R T o H H (aWanted l R o)) js ∧ GoodPR P l R T Q Hs ps rest
  | _, _ => True

theorem GoodPR.from {l : List Oper} {R T : List AV} {Hs : List (List AObj)} {tab : List (List Nat)} {effs : List Nat} {wins : List (Nat × Nat)} {bad : List Nat} : ∀ {rest : List Oper} {i : Nat},
    GoodPR P l R T Q Hs (planFrom tab effs wins bad i rest.length) rest → GoodFromR P l R T Hs effs wins tab bad Q i rest
  | [], i, _ => trivial
  | o :: rest, i, h => by
    simp only [List.length_cons, planFrom] at h
    unfold GoodFromR
    unfold planAt at h
    split at h
    · rename_i hb
      exact ⟨by rw [if_pos hb]; trivial, GoodPR.from h⟩
    · rename_i hb
      rw [if_neg hb]
      split at h
      · rename_i hc
        rw [if_pos hc]
        refine ⟨?_, GoodPR.from h.2⟩
        split
        · rename_i he
          rw [if_pos he] at h
          exact panGoodR_of h.1.1
        · rename_i he
          rw [if_neg he] at h
          exact fun j hj => panGoodR_of (h.1.get j hj)
      · rename_i hc
        rw [if_neg hc]
        split at h
        · rename_i he
          rw [if_pos he]
          exact ⟨opGoodR_of h.1, GoodPR.from h.2⟩
        · rename_i he
          rw [if_neg he]
          exact ⟨fun j hj => opGoodR_of (h.1.get j hj), GoodPR.from h.2⟩


/-- The slots of a list as they were. -/
def backS : List Tmp → List AV → List AV → List AV
  | [], _, T => T
  | t :: r, tm, T => backS r tm (T.set t ((tm[t]?).getD .any))
theorem backS_ne : ∀ (sm : List Tmp) (tm T : List AV) (t : Tmp), t ∉ sm → (backS sm tm T)[t]? = T[t]?
  | [], _, _, _, _ => rfl
  | s :: r, tm, T, t, h => by
    simp only [List.mem_cons, not_or] at h
    rw [backS, backS_ne r tm _ t h.2, List.getElem?_set, if_neg (fun e => h.1 e.symm)]
theorem backS_len : ∀ (sm : List Tmp) (tm T : List AV), (backS sm tm T).length = T.length
  | [], _, _ => rfl
  | s :: r, tm, T => by rw [backS, backS_len r]; simp
theorem backS_get : ∀ (sm : List Tmp) (tm T : List AV), T.length = tm.length → ∀ t ∈ sm, (backS sm tm T)[t]? = tm[t]?
  | [], _, _, _, t, h => by cases h
  | s :: r, tm, T, hl, t, h => by
    by_cases hr : t ∈ r
    · rw [backS]; exact backS_get r tm _ (by simpa using hl) t hr
    · rcases List.mem_cons.1 h with rfl | h
      · rw [backS, backS_ne r tm _ t hr]
        rcases Nat.lt_or_ge t tm.length with hlt | hge
        · rw [List.getElem?_set, if_pos rfl, if_pos (by omega), List.getElem?_eq_getElem hlt]; rfl
        · rw [List.getElem?_eq_none (by simp; omega), List.getElem?_eq_none hge]
      · exact absurd h hr
/-- The same, as a rule. -/
theorem awp_drawnR_k {id : Nat} {l : List Oper} (effs bad : List Nat) (plan : List OpPlan) (ne : Nat) (sm : List Tmp) (hm : P.follows .mixedOrders = true)
    (hok : (drawOk l (ancTab l) effs (winsOf l effs) sm && lateOk l (ancTab l) sm && bad.all (· < l.length) && decide (planOf l effs bad = plan) && effs.length == ne) = true)
    (h : ∀ (Kn : List AV → List AObj → Prop) (Kp : AV → List AV → List AObj → Prop), (∀ tm H, Q .normal tm H → Kn tm H) → (∀ x tm H, Q (.pan x) tm H → Kp x tm H) →
      AWSeq P l (fun T H' Hs => Hs.getD 0 [] = H ∧ GoodPR P l (backS sm tm T) T (AEx.two Kn Kp) Hs plan l ∧ (bad = [] → Kn T (Hs.getD ne []))) plan l tm H [H]) : AWP P H0 (.region id l.toArray true) Q tm H := by
  simp only [Bool.and_eq_true, List.all_eq_true, decide_eq_true_eq, beq_iff_eq] at hok
  obtain ⟨⟨⟨⟨hok, hlate⟩, hbad⟩, rfl⟩, rfl⟩ := hok
  refine awp_mono (Q := AEx.two (Q .normal) (fun x => Q (.pan x))) ?_ ?_
  · obtain ⟨T, H', Hs, h1, h2, h3, h4, h5⟩ := (h (Q .normal) (fun x => Q (.pan x)) (fun _ _ h => h) (fun _ _ _ h => h)).out
    exact awp_drawBR effs bad _ Hs hm sm hok hlate (backS_get sm tm T h1) (fun t ht => backS_ne sm tm T t ht) hbad h1 h2 h3 (GoodPR.from h4) h5
  · intro e tm H hq
    cases e <;> first | exact hq | exact hq.elim
end
attribute [go_sem] GoodPR OGRR OGWR backS
end Go.Proofs.Ytiifbdkedainnaa.AL

/- A row of one's own that is returned. -/
set_option linter.unusedVariables false
namespace Go.Proofs.Ytiifbdkedainnaa.AL
variable [G : GTab]
set_option linter.unusedSectionVars false
theorem pvRows_app (a b : List (List PV)) : pvRows a ++ pvRows b = pvRows (a ++ b) := by simp [pvRows]
theorem pvRows_one (r : List PV) : [r.map AV.pv] = pvRows [r] := rfl
theorem toPV_os {H L : List AObj} {k t sz n d : Nat} {rows : List (List PV)} (h : L[k]? = some (.arr t sz (pvRows rows))) (hn : rows.length = n) :
    (AV.os (H.length + k) 0 n n).toPV (H ++ L) H.length (d + 1) = some (.rs sz rows) := by
  subst hn
  simp only [AV.toPV, List.getElem?_append_right (Nat.le_add_right _ _), Nat.add_sub_cancel_left, h, pvRows_len, Nat.le_add_right, and_self, if_true, List.drop_zero]
  rw [List.take_of_length_le (by rw [pvRows_len]; exact Nat.le_refl _)]
  unfold pvRows
  rw [toPVs_pvs]
  rfl
theorem toPV_os0 {H L : List AObj} {t sz n d : Nat} {rows : List (List PV)} (hn : rows.length = n) :
    (AV.os H.length 0 n n).toPV (H ++ .arr t sz (pvRows rows) :: L) H.length (d + 1) = some (.rs sz rows) :=
  toPV_os (k := 0) rfl hn
theorem Fin.pureC0 {H0 : List AObj} {v v2 : AV} (k : Nat) (h : Cv (v.low H0 H0.length k) v2) : Fin H0 H0 v H0 v2 := by
  have := Fin.pureC (H0 := H0) (L := []) (v := v) (v2 := v2) k (by simpa using h)
  simpa using this
end Go.Proofs.Ytiifbdkedainnaa.AL

/- A call may first be given an own empty row for a nil slice in a cell. -/
set_option linter.unusedVariables false
set_option linter.unusedSectionVars false
namespace Go.Proofs.Ytiifbdkedainnaa.AL
variable [G : GTab]
/-- What may be done to the memory before a step may be done before a call. -/
theorem ARun.wk {P : Program} {f : FuncId} {args args' : List AV} {H H' : List AObj} {out : AOut} (hw : Wk H args H args' H') (h : ARun P f args' H' out) : ARun P f args H out := by
  refine ⟨h.call, fun w B S vs hr ha => ?_⟩
  obtain ⟨B1, S1, s⟩ := hw w B S [] ⟨vs.toArray, []⟩ w B S ⟨hr, Step.refl _ _ _ _, hr, by simpa using ha, rfl⟩
  refine (h.run w B1 S1 vs s.hrel (by simpa using s.tmps)).mono ?_
  rintro e w' ⟨B', S', st, hr', he⟩
  exact ⟨B', S', s.step.trans st, hr', he⟩
theorem ARun.ghostO {P : Program} {f : FuncId} {args : List AV} {H : List AObj} {out : AOut} (id j : Nat) (t : TypeId) {sz : Nat} {tt : TypeId} {cs : List AV} (hsz : 0 < sz) (hid : H[id]? = some (.cells tt cs)) (hj : cs[j]? = some (.pv (.sc (.slice none 0 0))))
    (h : ARun P f args (H.set id (.cells tt (cs.set j (.os H.length 0 0 0))) ++ [.arr t sz []]) out) : ARun P f args H out :=
  ARun.wk (Wk.ghostO id j t hsz hid hj) h
end Go.Proofs.Ytiifbdkedainnaa.AL

/- A call at other words for the same arguments. -/
set_option linter.unusedVariables false
set_option linter.unusedSectionVars false
namespace Go.Proofs.Ytiifbdkedainnaa.AL
variable [G : GTab]
theorem CvL.fgt : ∀ {a b : List AV}, CvL a b → Fgt a b
  | [], [], _ => trivial
  | [], _ :: _, h => h.elim
  | _ :: _, [], h => h.elim
  | _ :: _, _ :: _, h => ⟨.inr (.inr h.1), CvL.fgt h.2⟩
theorem ARun.cv {P : Program} {f : FuncId} {args args' : List AV} {H : List AObj} {out : AOut} (h : ARun P f args' H out) (ha : CvL args args') : ARun P f args H out :=
  ARun.wk (Wk.fgt ha.fgt) h
end Go.Proofs.Ytiifbdkedainnaa.AL

set_option maxHeartbeats 8000000
set_option maxRecDepth 100000
set_option linter.unusedVariables false
set_option linter.unusedSimpArgs false
set_option linter.unusedSectionVars false
namespace Go.Proofs.Ytiifbdkedainnaa.Y
open Go.Proofs.Ytiifbdkedainnaa.AL Go.Proofs Go
attribute [local irreducible] AWP AWL AWG AWR AWE AWX AWO AWSeq AWSG AWSR AWSO AWSE AWSF GoodP OGW OGR OGE OGX PGW PGR PGE Wk AWLoop AWPD AWLD
theorem dr22_6_X22w : Drawn Try.prog 6 (regOps 6 ((Try.f22.body).getD .skip)) [] [] [.win [0], .win [0], .win [0], .win [0], .win [0], .win [0], .win [0], .win [0], .win [0]] 0 [] := ⟨rfl, by as_aux_lemma => kernel_rfl⟩

abbrev agC (c : Cod) : AV := .agg [.rs 3 (c.c0.map encI), .rs 3 (c.c1.map encI), .rs 3 (c.c2.map encI), .rs 3 (c.c3.map encI), .rs 3 (c.c4.map encI)]
structure CodFine (c : Cod) : Prop where
  l0 : c.c0.length ≤ 2000000
  l1 : c.c1.length ≤ 2000000
  l2 : c.c2.length ≤ 2000000
  l3 : c.c3.length ≤ 2000000
  l4 : c.c4.length ≤ 2000000
def shortS (c : Cod) (n : Int) : Bool := decide ((c.c0.length : Int) ≤ n) && (decide ((c.c1.length : Int) ≤ n) && (decide ((c.c2.length : Int) ≤ n) && (decide ((c.c3.length : Int) ≤ n) && decide ((c.c4.length : Int) ≤ n))))
theorem RShort9_run (c : Cod) (n : Int) (H0 : List AObj) :
    ARun Try.prog 12 [agC c, .i n] H0 (.ret (.b (shortS c n)) H0) := by
  by_cases b0 : n < c.c0.length
  · have a0 : ¬ (c.c0.length : Int) ≤ n := by omega
    (refine ARun.intro Try.func12 rfl Try.call12 Try.ntmps12 Try.results12 ?_; simp only [List.length_cons, List.length_nil, List.length_map, Nat.reduceAdd, Nat.reduceSub, List.replicate_succ, List.replicate_zero, List.cons_append, List.nil_append])
    (refine wk ?_; (repeat' first | exact True.intro | refine Lf.mk ?_ ?_); all_goals intro hP)
    refine awp_loop 6 ?_
    (have ww1 := b0; refine wk ?_; clear ww1; (repeat' first | exact True.intro | refine Lf.mk ?_ ?_); all_goals intro hP)
    (refine resX ?_; try exact True.intro)
    all_goals simp [shortS, a0]
  by_cases b1 : n < c.c1.length
  · have a1 : ¬ (c.c1.length : Int) ≤ n := by omega
    (refine ARun.intro Try.func12 rfl Try.call12 Try.ntmps12 Try.results12 ?_; simp only [List.length_cons, List.length_nil, List.length_map, Nat.reduceAdd, Nat.reduceSub, List.replicate_succ, List.replicate_zero, List.cons_append, List.nil_append])
    (refine wk ?_; (repeat' first | exact True.intro | refine Lf.mk ?_ ?_); all_goals intro hP)
    refine awp_loop 6 ?_
    (have ww1 := b0; have ww2 := b1; refine wk ?_; clear ww1 ww2; (repeat' first | exact True.intro | refine Lf.mk ?_ ?_); all_goals intro hP)
    (refine resX ?_; try exact True.intro)
    all_goals simp [shortS, a1]
  by_cases b2 : n < c.c2.length
  · have a2 : ¬ (c.c2.length : Int) ≤ n := by omega
    (refine ARun.intro Try.func12 rfl Try.call12 Try.ntmps12 Try.results12 ?_; simp only [List.length_cons, List.length_nil, List.length_map, Nat.reduceAdd, Nat.reduceSub, List.replicate_succ, List.replicate_zero, List.cons_append, List.nil_append])
    (refine wk ?_; (repeat' first | exact True.intro | refine Lf.mk ?_ ?_); all_goals intro hP)
    refine awp_loop 6 ?_
    (have ww1 := b0; have ww2 := b1; have ww3 := b2; refine wk ?_; clear ww1 ww2 ww3; (repeat' first | exact True.intro | refine Lf.mk ?_ ?_); all_goals intro hP)
    (refine resX ?_; try exact True.intro)
    all_goals simp [shortS, a2]
  by_cases b3 : n < c.c3.length
  · have a3 : ¬ (c.c3.length : Int) ≤ n := by omega
    (refine ARun.intro Try.func12 rfl Try.call12 Try.ntmps12 Try.results12 ?_; simp only [List.length_cons, List.length_nil, List.length_map, Nat.reduceAdd, Nat.reduceSub, List.replicate_succ, List.replicate_zero, List.cons_append, List.nil_append])
    (refine wk ?_; (repeat' first | exact True.intro | refine Lf.mk ?_ ?_); all_goals intro hP)
    refine awp_loop 6 ?_
    (have ww1 := b0; have ww2 := b1; have ww3 := b2; have ww4 := b3; refine wk ?_; clear ww1 ww2 ww3 ww4; (repeat' first | exact True.intro | refine Lf.mk ?_ ?_); all_goals intro hP)
    (refine resX ?_; try exact True.intro)
    all_goals simp [shortS, a3]
  by_cases b4 : n < c.c4.length
  · have a4 : ¬ (c.c4.length : Int) ≤ n := by omega
    (refine ARun.intro Try.func12 rfl Try.call12 Try.ntmps12 Try.results12 ?_; simp only [List.length_cons, List.length_nil, List.length_map, Nat.reduceAdd, Nat.reduceSub, List.replicate_succ, List.replicate_zero, List.cons_append, List.nil_append])
    (refine wk ?_; (repeat' first | exact True.intro | refine Lf.mk ?_ ?_); all_goals intro hP)
    refine awp_loop 6 ?_
    (have ww1 := b0; have ww2 := b1; have ww3 := b2; have ww4 := b3; have ww5 := b4; refine wk ?_; clear ww1 ww2 ww3 ww4 ww5; (repeat' first | exact True.intro | refine Lf.mk ?_ ?_); all_goals intro hP)
    (refine resX ?_; try exact True.intro)
    all_goals simp [shortS, a4]
  have a0 : (c.c0.length : Int) ≤ n := by omega
  have a1 : (c.c1.length : Int) ≤ n := by omega
  have a2 : (c.c2.length : Int) ≤ n := by omega
  have a3 : (c.c3.length : Int) ≤ n := by omega
  have a4 : (c.c4.length : Int) ≤ n := by omega
  (refine ARun.intro Try.func12 rfl Try.call12 Try.ntmps12 Try.results12 ?_; simp only [List.length_cons, List.length_nil, List.length_map, Nat.reduceAdd, Nat.reduceSub, List.replicate_succ, List.replicate_zero, List.cons_append, List.nil_append])
  (refine wk ?_; (repeat' first | exact True.intro | refine Lf.mk ?_ ?_); all_goals intro hP)
  refine awp_loop 6 ?_
  (have ww1 := b0; have ww2 := b1; have ww3 := b2; have ww4 := b3; have ww5 := b4; refine wk ?_; clear ww1 ww2 ww3 ww4 ww5; (repeat' first | exact True.intro | refine Lf.mk ?_ ?_); all_goals intro hP)
  (refine resX ?_; try exact True.intro)
  all_goals simp [shortS, a0, a1, a2, a3, a4]
theorem eqgI : Try.prog.eqGuardType Try.prog.depth 41 = false := by kernel_rfl
theorem eqsI : eqStruct Try.prog 41 = true := by kernel_rfl
/-- Instructions are compared. -/
def sameI (a b : List Ins) : Bool := decide (a = b)
def sameC (a b : Cod) : Bool := sameI a.c0 b.c0 && (sameI a.c1 b.c1 && (sameI a.c2 b.c2 && (sameI a.c3 b.c3 && sameI a.c4 b.c4)))
theorem RSameI_run (a b : List Ins) (H0 : List AObj) :
    ARun Try.prog 22 [.rs 3 (a.map encI), .rs 3 (b.map encI)] H0 (.ret (.b (sameI a b)) H0) := by
  by_cases hl : a.length = b.length
  · have hl' : ((a.length : Int) != (b.length : Int)) = false := by simp; omega
    (refine ARun.intro Try.func22 rfl Try.call22 Try.ntmps22 Try.results22 ?_; simp only [List.length_cons, List.length_nil, List.length_map, Nat.reduceAdd, Nat.reduceSub, List.replicate_succ, List.replicate_zero, List.cons_append, List.nil_append])
    refine awp_len 0 rfl fun hlen => ?_
    rw [List.length_map] at hlen
    (have rr1 := dr22_6_X22w; have ww1 := hl'; refine wk ?_; clear rr1 ww1; (repeat' first | exact True.intro | refine Lf.mk ?_ ?_); all_goals intro hP)
    refine awp_loop_ind (σ := Nat) (fun k => a.length - k) (fun k => k ≤ a.length ∧ sameI a b = sameI (a.drop k) (b.drop k))
      (fun k => (.rs 3 (a.map encI) :: .rs 3 (b.map encI) :: .any :: .any :: .any :: .i k :: .any :: .any :: .any :: .any :: .any :: .any :: .any :: .any :: .any :: .any :: .any :: .any :: .any :: .any :: .any :: .any :: .any :: .any :: .any :: .any :: []))
      (fun k => H0) 0 ⟨Nat.zero_le _, by simp⟩ (by (refine fgtX ?_; try exact True.intro)) ?_
    rintro k ⟨k1, k2⟩
    cases hd : a.drop k with
    | nil =>
      have hlt := drop_nil hd
      have hk : a.length ≤ k := List.drop_eq_nil_iff.1 hd
      rw [hd, List.drop_eq_nil_iff.2 (show b.length ≤ k by omega)] at k2
      rw [k2]
      (have rr1 := dr22_6_X22w; have ww1 := hlt; refine wk ?_; clear rr1 ww1; (repeat' first | exact True.intro | refine Lf.mk ?_ ?_); all_goals intro hP)
      (refine resX ?_; try exact True.intro)
      all_goals simp [sameI]
    | cons x xs =>
      obtain ⟨hvk, hlt, hr, hm⟩ := drop_cons hd
      have hw : IntKind.i64.wrap ((k : Int) + 1) = ((k + 1 : Nat) : Int) := by rw [wrap_of (by omega) (by omega)]; omega
      have hbk : k < b.length := by omega
      have hbd : b.drop k = b[k] :: b.drop (k + 1) := List.drop_eq_getElem_cons hbk
      have hvb : b[k]? = some b[k] := List.getElem?_eq_getElem hbk
      have hlb : (k : Int) < (b.length : Int) := by omega
      generalize b[k] = y at *
      have ga : (a.map encI)[k]? = some [.i x.op, .i x.n, .i x.rel] := by rw [List.getElem?_map, hvk]; rfl
      have gb : (b.map encI)[k]? = some [.i y.op, .i y.n, .i y.rel] := by rw [List.getElem?_map, hvb]; rfl
      rw [hd, hbd] at k2
      by_cases hxy : x = y
      · subst hxy
        have k3 : sameI a b = sameI xs (b.drop (k + 1)) := by rw [k2]; unfold sameI; simp
        rw [← hr] at k3
        (have rr1 := dr22_6_X22w; have ww1 := hlt; have ww2 := hlb; have ww3 := ga; have ww4 := gb; have ww5 := hw; have ww6 := @eqgI; have ww7 := @eqsI; refine wk ?_; clear rr1 ww1 ww2 ww3 ww4 ww5 ww6 ww7; (repeat' first | exact True.intro | refine Lf.mk ?_ ?_); all_goals intro hP)
        refine ⟨k + 1, by omega, ⟨by omega, k3⟩, ?_⟩
        (refine fgtX ?_; try exact True.intro)
      · have k3 : sameI a b = false := by rw [k2]; unfold sameI; simp [hxy]
        have hne : (x.op == y.op && (x.n == y.n && x.rel == y.rel)) = false := by
          rw [Bool.eq_false_iff]
          simp only [ne_eq, Bool.and_eq_true, beq_iff_eq]
          rintro ⟨h1, h2, h3⟩
          exact hxy (by cases x; cases y; simp_all)
        rw [k3]
        (have rr1 := dr22_6_X22w; have ww1 := hlt; have ww2 := hlb; have ww3 := ga; have ww4 := gb; have ww5 := hw; have ww6 := @eqgI; have ww7 := @eqsI; have ww8 := hne; refine wk ?_; clear rr1 ww1 ww2 ww3 ww4 ww5 ww6 ww7 ww8; (repeat' first | exact True.intro | refine Lf.mk ?_ ?_); all_goals intro hP)
        (refine resX ?_; try exact True.intro)
  · have hl' : ((a.length : Int) != (b.length : Int)) = true := by simp; omega
    have : sameI a b = false := by unfold sameI; simp; intro h; exact hl (by rw [h])
    rw [this]
    (refine ARun.intro Try.func22 rfl Try.call22 Try.ntmps22 Try.results22 ?_; simp only [List.length_cons, List.length_nil, List.length_map, Nat.reduceAdd, Nat.reduceSub, List.replicate_succ, List.replicate_zero, List.cons_append, List.nil_append])
    (have rr1 := dr22_6_X22w; have ww1 := hl'; refine wk ?_; clear rr1 ww1; (repeat' first | exact True.intro | refine Lf.mk ?_ ?_); all_goals intro hP)
    (refine resX ?_; try exact True.intro)
abbrev pR (X : List Ins) : List (List AV) := pvRows (X.map encI)
theorem pR_len (X : List Ins) : (pR X).length = X.length := by simp [pvRows]
theorem pR_app (X : List Ins) (Y : List Ins) : pR X ++ (Y.map encI).map (fun r => r.map AV.pv) = pR (X ++ Y) := by simp [pvRows]
theorem pR_one (X : List Ins) (a b c : Int) : pR X ++ [[.i a, .i b, .i c]] = pR (X ++ [⟨a, b, c⟩]) := by simp [pvRows, encI, cI]
theorem pR_get {X : List Ins} {k : Nat} {x : Ins} (h : X[k]? = some x) : (pR X)[k]? = some [.i x.op, .i x.n, .i x.rel] := by simp [pvRows, h, encI, cI]
theorem pR_set (X : List Ins) (k : Nat) (x : Ins) : (pR X).set k [.i x.op, .i x.n, .i x.rel] = pR (X.set k x) := by simp [pvRows, List.map_set, encI, cI]
theorem shortS_fine {c : Cod} {n : Int} (h : shortS c n = true) (hn : n ≤ 2000000) : CodFine c := by
  simp only [shortS, Bool.and_eq_true, decide_eq_true_eq] at h
  exact ⟨by omega, by omega, by omega, by omega, by omega⟩
end Go.Proofs.Ytiifbdkedainnaa.Y

/- Plain laws: names of things, and which programs are valid. -/
set_option linter.unusedVariables false
namespace Go.Proofs.Ytiifbdkedainnaa.AL
def wUnits : List ByteArray := [⟨#[110, 111, 110, 101]⟩, ⟨#[112, 97, 99, 107, 101, 116, 115]⟩, ⟨#[98, 121, 116, 101, 115]⟩, ⟨#[116, 105, 109, 101]⟩, ⟨#[114, 97, 116, 101]⟩]
def wEvents : List ByteArray := [⟨#[97, 99, 107]⟩, ⟨#[108, 111, 115, 115]⟩, ⟨#[109, 97, 114, 107]⟩, ⟨#[116, 105, 109, 101, 111, 117, 116]⟩, ⟨#[112, 97, 116, 104]⟩]
def wPolicies : List ByteArray := [⟨#[116, 97, 105, 108]⟩, ⟨#[101, 97, 114, 108, 121]⟩, ⟨#[115, 111, 106, 111, 117, 114, 110]⟩, ⟨#[105, 110, 116, 101, 103, 114, 97, 108]⟩, ⟨#[100, 101, 102, 105, 99, 105, 116]⟩, ⟨#[100, 117, 97, 108]⟩]
def wInputs : List ByteArray := [⟨#[97, 99, 107, 101, 100]⟩, ⟨#[114, 116, 116]⟩, ⟨#[115, 105, 122, 101]⟩, ⟨#[116, 111, 116, 97, 108]⟩]
def wOthers : List ByteArray := [⟨#[108, 105, 110, 107]⟩, ⟨#[112, 97, 116, 104]⟩, ⟨#[102, 108, 111, 119]⟩, ⟨#[112, 114, 111, 103, 114, 97, 109]⟩, ⟨#[100, 101, 108, 97, 121]⟩, ⟨#[114, 111, 111, 109]⟩, ⟨#[98, 97, 99, 107]⟩, ⟨#[112, 97, 116, 104, 115]⟩, ⟨#[119, 105, 110, 100, 111, 119]⟩, ⟨#[115, 116, 97, 114, 116]⟩, ⟨#[112, 97, 99, 101]⟩, ⟨#[118, 97, 114]⟩, ⟨#[111, 110]⟩, ⟨#[105, 102]⟩, ⟨#[101, 108, 115, 101]⟩, ⟨#[109, 105, 110]⟩, ⟨#[109, 97, 120]⟩, ⟨#[117, 112]⟩]
/-- Two texts are the same, as the machine compares them. -/
def eqB (a b : ByteArray) : Bool := a.toList == b.toList
theorem eqB_comm (a b : ByteArray) : eqB a b = eqB b a := by
  unfold eqB
  rw [Bool.eq_iff_iff, beq_iff_eq, beq_iff_eq]
  exact eq_comm
/-- A text's place in a list, or -1. -/
def placeS : List ByteArray → ByteArray → Int → Int
  | [], _, _ => -1
  | w :: l, s, i => if eqB w s = true then i else placeS l s (i + 1)
def inB (l : List ByteArray) (s : ByteArray) : Bool := l.any fun w => eqB w s
theorem placeS_nn {l : List ByteArray} {s : ByteArray} : ∀ {i : Int}, 0 ≤ i → (0 ≤ placeS l s i ↔ inB l s = true) := by
  induction l with
  | nil => intro i hi; simp [placeS, inB]
  | cons w l ih =>
    intro i hi
    unfold placeS
    have := ih (i := i + 1) (by omega)
    by_cases h : eqB w s = true
    · simp [h, inB, hi]
    · simp only [h, if_false, Bool.false_eq_true, this]
      unfold inB
      rw [List.any_cons]
      simp [h]
def keyB (s : ByteArray) : Bool := inB wUnits s || (inB wEvents s || (inB wPolicies s || (inB wInputs s || inB wOthers s)))
def charS (i : Nat) (c : Int) : Bool := (decide (97 ≤ c) && decide (c ≤ 122)) || (decide (i ≠ 0) && ((decide (48 ≤ c) && decide (c ≤ 57)) || c == 95))
def charsS : List Int → Nat → Bool
  | [], _ => true
  | c :: r, i => charS i c && charsS r (i + 1)
/-- A text is a name of one's own. -/
def nameB (s : ByteArray) : Bool := charsS (bytesZ s) 0 && (decide (1 ≤ s.size) && (decide (s.size ≤ 12) && !keyB s))
def varB (v : Vr) : Bool := nameB v.name && decide (0 ≤ v.unit ∧ v.unit ≤ 4 ∧ 0 ≤ v.low ∧ v.low ≤ v.init ∧ v.init ≤ v.high ∧ v.high ≤ 1000000000)
/-- A variable's place, or -1. -/
def findV : List Vr → ByteArray → Int → Int
  | [], _, _ => -1
  | v :: l, s, i => if eqB v.name s = true then i else findV l s (i + 1)
/-- No name stands twice. -/
def onceB : List Vr → List ByteArray → Bool
  | [], _ => true
  | v :: l, seen => !(inB seen v.name) && onceB l (seen ++ [v.name])
def usesB (l : List Vr) (k unit : Int) : Bool := decide (0 ≤ k ∧ k < l.length) && (((l[k.toNat]?).map (·.unit)) == some unit)
/-- A program is valid. -/
def validB (p : Prg) : Bool :=
  nameB p.name && (decide (1 ≤ p.vars.length) && (decide (p.vars.length ≤ 12) && ((p.vars.all varB) && (onceB p.vars [] && (decide (checkS p = (-1, 0)) && (usesB p.vars p.window 1 && (decide (p.pace = -1) || usesB p.vars p.pace 4)))))))
end Go.Proofs.Ytiifbdkedainnaa.AL

/- Plain laws: how code runs; the heights of its stack. -/
set_option linter.unusedVariables false
namespace Go.Proofs.Ytiifbdkedainnaa.AL
structure Cf where
  now : List Int
  stk : List Int
  at' : Nat
abbrev inS (i0 i1 i2 i3 : Int) (j : Nat) : Int := if j = 0 then i0 else if j = 1 then i1 else if j = 2 then i2 else i3
section
variable (vs : List Vr) (i0 i1 i2 i3 : Int)
def stepS (x : Ins) (c : Cf) : Except Int Cf :=
  if x.op = 1 then .ok ⟨c.now, c.stk ++ [x.n], c.at' + 1⟩
  else if x.op = 2 then .ok ⟨c.now, c.stk ++ [c.now.getD x.n.toNat 0], c.at' + 1⟩
  else if x.op = 3 then .ok ⟨c.now, c.stk ++ [inS i0 i1 i2 i3 x.n.toNat], c.at' + 1⟩
  else if x.op = 11 then (match vs[x.n.toNat]? with
    | none => .error 1
    | some vr => if vr.low ≤ c.stk.getD (c.stk.length - 1) 0 ∧ c.stk.getD (c.stk.length - 1) 0 ≤ vr.high then .ok ⟨c.now.set x.n.toNat (c.stk.getD (c.stk.length - 1) 0), c.stk.take (c.stk.length - 1), c.at' + 1⟩ else .error 15)
  else if x.op = 12 then .ok ⟨c.now, c.stk.take (c.stk.length - 2), if holdsS (c.stk.getD (c.stk.length - 2) 0) x.rel (c.stk.getD (c.stk.length - 1) 0) = true then c.at' + 1 else x.n.toNat⟩
  else if x.op = 13 then .ok ⟨c.now, c.stk, x.n.toNat⟩
  else match calcS x.op (c.stk.getD (c.stk.length - 2) 0) (c.stk.getD (c.stk.length - 1) 0) with
    | .ok v => .ok ⟨c.now, c.stk.take (c.stk.length - 2) ++ [v], c.at' + 1⟩
    | .error e => .error e
/-- How a handler runs, so many steps at most. -/
def traceS (l : List Ins) : Nat → Cf → Nat → Except Int (List Int) × Nat
  | 0, c, n => (.ok c.now, n)
  | f + 1, c, n => match l[c.at']? with
    | none => (.ok c.now, n)
    | some x => match stepS vs i0 i1 i2 i3 x c with
      | .error e => (.error e, n + 1)
      | .ok c' => traceS l f c' (n + 1)
end
/-- A configuration as it must be. -/
structure CfOk (vs : List Vr) (c : Cf) : Prop where
  now : c.now.length = vs.length
  nowV : ∀ v ∈ c.now, isV v
  stkV : ∀ v ∈ c.stk, isV v
/-- An instruction that finds what it needs. -/
structure At (vs : List Vr) (len : Int) (x : Ins) (c : Cf) : Prop where
  ok : insOk x c.at' len vs.length = true
  tk : takes x.op ≤ c.stk.length
  pt : (c.stk.length : Int) - takes x.op + puts x.op ≤ 64

theorem getD_mem {l : List Int} {k : Nat} (h : k < l.length) : l.getD k 0 ∈ l := by
  rw [List.getD_eq_getElem?_getD, List.getElem?_eq_getElem h]; simp
theorem calcS_err {op a b e : Int} (h : calcS op a b = .error e) : e = 3 ∨ e = 14 := by
  unfold calcS at h
  repeat' split at h
  all_goals first | (obtain ⟨_, rfl⟩ := valS_err h; exact .inl rfl) | (cases h; exact .inr rfl)

section
variable {vs : List Vr} {i0 i1 i2 i3 : Int} {x : Ins} {c c' : Cf} {len : Int}
theorem stepS_err {e : Int} (h : stepS vs i0 i1 i2 i3 x c = .error e) (ha : At vs len x c) : e = 3 ∨ e = 14 ∨ e = 15 := by
  unfold stepS at h
  repeat' split at h
  all_goals first | (cases h; done) | skip
  all_goals first | (cases h; exact .inr (.inr rfl)) | skip
  · rename_i h1 h2 h3 h4 o hn
    have := ha.ok
    unfold insOk at this
    rw [h4] at this
    simp at this
    rw [List.getElem?_eq_none_iff] at hn
    omega
  · rename_i hc
    cases h
    rcases calcS_err hc with h | h
    · exact .inl h
    · exact .inr (.inl h)
theorem stepS_ok (h : stepS vs i0 i1 i2 i3 x c = .ok c') (hc : CfOk vs c) (ha : At vs len x c) (hi : ∀ j, isV (inS i0 i1 i2 i3 j)) :
    CfOk vs c' ∧ (c'.stk.length : Int) = c.stk.length - takes x.op + puts x.op ∧ (c'.at' = c.at' + 1 ∧ x.op ≠ 13 ∨ c'.at' = x.n.toNat ∧ (x.op = 12 ∨ x.op = 13)) ∧ c.at' < c'.at' ∧ (c'.at' : Int) ≤ max len (c.at' + 1) := by
  have hok := ha.ok
  have htk := ha.tk
  have hop := insOk_op hok
  unfold insOk at hok
  unfold stepS at h
  by_cases h1 : x.op = 1
  · rw [if_pos h1] at h; cases h
    simp only [h1] at hok htk ⊢
    simp at hok
    refine ⟨⟨hc.now, hc.nowV, fun v hv => ?_⟩, by simp [takes, puts], by simp, by simp, by simp; omega⟩
    simp at hv; rcases hv with hv | rfl
    · exact hc.stkV v hv
    · exact ⟨hok.2.1, hok.2.2⟩
  rw [if_neg h1] at h
  by_cases h2 : x.op = 2
  · rw [if_pos h2] at h; cases h
    simp only [h2] at hok htk ⊢
    simp at hok
    have hl : x.n.toNat < c.now.length := by rw [hc.now]; omega
    refine ⟨⟨hc.now, hc.nowV, fun v hv => ?_⟩, by simp [takes, puts], by simp, by simp, by simp; omega⟩
    simp only [List.mem_append, List.mem_singleton] at hv; rcases hv with hv | rfl
    · exact hc.stkV v hv
    · exact hc.nowV _ (getD_mem hl)
  rw [if_neg h2] at h
  by_cases h3 : x.op = 3
  · rw [if_pos h3] at h; cases h
    simp only [h3] at hok htk ⊢
    refine ⟨⟨hc.now, hc.nowV, fun v hv => ?_⟩, by simp [takes, puts], by simp, by simp, by simp; omega⟩
    simp only [List.mem_append, List.mem_singleton] at hv; rcases hv with hv | rfl
    · exact hc.stkV v hv
    · exact hi _
  rw [if_neg h3] at h
  by_cases h11 : x.op = 11
  · rw [if_pos h11] at h
    simp only [h11] at hok htk ⊢
    simp [takes] at htk
    have hm := hc.stkV _ (getD_mem (l := c.stk) (k := c.stk.length - 1) (by omega))
    split at h
    · cases h
    · split at h
      · cases h
        refine ⟨⟨by simp [hc.now], fun v hv => ?_, fun v hv => hc.stkV v (List.mem_of_mem_take hv)⟩, by simp [takes, puts]; omega, by simp, by simp, by simp; omega⟩
        rcases List.mem_or_eq_of_mem_set hv with hv | rfl
        · exact hc.nowV v hv
        · exact hm
      · cases h
  rw [if_neg h11] at h
  by_cases h12 : x.op = 12
  · rw [if_pos h12] at h; cases h
    simp only [h12] at hok htk ⊢
    simp at hok
    simp [takes] at htk
    refine ⟨⟨hc.now, hc.nowV, fun v hv => hc.stkV v (List.mem_of_mem_take hv)⟩, by simp [takes, puts]; omega, ?_, ?_, ?_⟩
    all_goals (split <;> simp <;> omega)
  rw [if_neg h12] at h
  by_cases h13 : x.op = 13
  · rw [if_pos h13] at h; cases h
    simp only [h13] at hok htk ⊢
    simp at hok
    refine ⟨⟨hc.now, hc.nowV, hc.stkV⟩, by simp [takes, puts], by simp, by simp; omega, by simp; omega⟩
  rw [if_neg h13] at h
  have ht : takes x.op = 2 := by unfold takes; rw [if_neg (by omega), if_neg h11]
  have hp : puts x.op = 1 := by unfold puts; rw [if_neg (by omega)]
  rw [ht] at htk
  split at h
  · rename_i v hv
    cases h
    refine ⟨⟨hc.now, hc.nowV, fun u hu => ?_⟩, by simp [ht, hp]; omega, .inl ⟨rfl, h13⟩, by simp, by simp; omega⟩
    simp only [List.mem_append, List.mem_singleton] at hu; rcases hu with hu | rfl
    · exact hc.stkV u (List.mem_of_mem_take hu)
    · exact calcS_isV hv
  · cases h
end
end Go.Proofs.Ytiifbdkedainnaa.AL
namespace Go.Proofs.Ytiifbdkedainnaa.AL
theorem reachS_get {hs hs' : List Int} {a : Nat} {h : Int} (e : reachS hs a h = some hs') : hs'[a]? = some h ∧ ∀ (j : Nat) (y : Int), hs[j]? = some y → y ≠ -1 → hs'[j]? = some y := by
  unfold reachS at e
  split at e
  · cases e
  · rename_i y0 hy0
    have hl := (List.getElem?_eq_some_iff.1 hy0).1
    split at e
    · rename_i hc
      simp only [Option.some.injEq] at e; subst e
      refine ⟨by simp [hl], fun j y hj hy => ?_⟩
      rw [List.getElem?_set]
      split
      · rename_i haj; subst haj
        rw [hy0] at hj; cases hj
        rcases hc with h1 | h1
        · exact absurd h1 hy
        · rw [h1]
      · exact hj
    · cases e
structure CertAt (len vars : Int) (ht : Nat → Int) (x : Ins) (i : Nat) : Prop where
  ok : insOk x i len vars = true
  tk : takes x.op ≤ ht i
  pt : ht i - takes x.op + puts x.op ≤ 64
  nxt : x.op ≠ 13 → ht (i + 1) = ht i - takes x.op + puts x.op
  jmp : x.op = 12 ∨ x.op = 13 → ht x.n.toNat = ht i - takes x.op + puts x.op
theorem takes_nn (op : Int) : 0 ≤ takes op := by unfold takes; split <;> (try split) <;> omega
theorem puts_nn (op : Int) : 0 ≤ puts op := by unfold puts; split <;> omega
theorem hStep_get {len vars : Int} {x : Ins} {i : Nat} {hs hs' : List Int} (e : hStep len vars x i hs = some hs') :
    ∃ y, hs[i]? = some y ∧ y ≠ -1 ∧ insOk x i len vars = true ∧ takes x.op ≤ y ∧ y - takes x.op + puts x.op ≤ 64 ∧ (x.op ≠ 13 → hs'[i + 1]? = some (y - takes x.op + puts x.op)) ∧ (x.op = 12 ∨ x.op = 13 → hs'[x.n.toNat]? = some (y - takes x.op + puts x.op)) ∧ ∀ (j : Nat) (y : Int), hs[j]? = some y → y ≠ -1 → hs'[j]? = some y := by
  unfold hStep at e
  split at e
  · cases e
  · rename_i y hy
    split at e
    · cases e
    · rename_i h1
      split at e
      · cases e
      · rename_i h2
        have t1 := takes_nn x.op
        have t2 := puts_nn x.op
        refine ⟨y, hy, fun h => h1 (.inl h), ?_, by omega, by omega, ?_⟩
        · cases h : insOk x i len vars
          · exact absurd (.inr (.inl h)) h1
          · rfl
        split at e
        · rename_i h12
          split at e
          · cases e
          · rename_i hs1 e1
            obtain ⟨a1, a2⟩ := reachS_get e1
            obtain ⟨b1, b2⟩ := reachS_get e
            exact ⟨fun _ => b1, fun _ => b2 _ _ a1 (by omega), fun j y hj hy => b2 j y (a2 j y hj hy) hy⟩
        · rename_i h12
          split at e
          · rename_i h13
            obtain ⟨a1, a2⟩ := reachS_get e
            exact ⟨fun h => absurd h13 h, fun _ => a1, a2⟩
          · rename_i h13
            obtain ⟨a1, a2⟩ := reachS_get e
            exact ⟨fun _ => a1, fun h => by omega, a2⟩
theorem hLoop_cert {len vars : Int} : ∀ (rest : List Ins) (i : Nat) (hs : List Int), hLoop len vars rest i hs = true →
    ∃ ht : Nat → Int, (∀ (j : Nat) (y : Int), hs[j]? = some y → y ≠ -1 → ht j = y) ∧ (∀ (k : Nat) (x : Ins), rest[k]? = some x → CertAt len vars ht x (i + k)) ∧ ht (i + rest.length) = 0
  | [], i, hs, h => by
    unfold hLoop at h
    split at h
    · rename_i y hy
      have h : y = 0 := by simpa using h
      subst h
      exact ⟨fun j => (hs[j]?).getD 0, fun j y hj _ => by simp [hj], by simp, by simp [hy]⟩
    · cases h
  | x :: rest, i, hs, h => by
    unfold hLoop at h
    split at h
    · cases h
    · rename_i hs' e
      obtain ⟨ht, g1, g2, g3⟩ := hLoop_cert rest (i + 1) hs' h
      obtain ⟨y, a1, a2, a3, a4, a5, a6, a7, a8⟩ := hStep_get e
      have t1 := takes_nn x.op
      have t2 := puts_nn x.op
      have hy : ht i = y := g1 _ _ (a8 _ _ a1 a2) a2
      refine ⟨ht, fun j z hj hz => g1 _ _ (a8 _ _ hj hz) hz, fun k u hk => ?_, ?_⟩
      · cases k with
        | zero =>
          simp only [List.getElem?_cons_zero, Option.some.injEq] at hk; subst hk
          rw [Nat.add_zero]
          exact ⟨a3, by rw [hy]; exact a4, by rw [hy]; exact a5, fun h => by rw [hy]; exact g1 _ _ (a6 h) (by omega), fun h => by rw [hy]; exact g1 _ _ (a7 h) (by omega)⟩
        | succ k =>
          have := g2 k u (by simpa using hk)
          rwa [show i + 1 + k = i + (k + 1) by omega] at this
      · rw [← g3]; congr 1; simp only [List.length_cons]; omega
structure Cert (l : List Ins) (vars : Int) (ht : Nat → Int) : Prop where
  len : l.length ≤ 4000
  zero : ht 0 = 0
  at' : ∀ (i : Nat) (x : Ins), l[i]? = some x → CertAt l.length vars ht x i
  last : ht l.length = 0
theorem verH_cert {l : List Ins} {vars : Int} (h : verH l vars = true) : ∃ ht, Cert l vars ht := by
  unfold verH at h
  simp only [Bool.and_eq_true, decide_eq_true_eq] at h
  obtain ⟨ht, g1, g2, g3⟩ := hLoop_cert _ _ _ h.2
  refine ⟨ht, h.1, g1 0 0 (by simp) (by decide), fun i x hx => ?_, ?_⟩
  · have := g2 i x hx; rwa [Nat.zero_add] at this
  · rwa [Nat.zero_add] at g3
theorem stepS_cert {vs : List Vr} {i0 i1 i2 i3 : Int} {l : List Ins} {ht : Nat → Int} (hc : Cert l vs.length ht) {c c' : Cf} {x : Ins} (hx : l[c.at']? = some x) (hk : CfOk vs c) (hh : (c.stk.length : Int) = ht c.at') (hi : ∀ j, isV (inS i0 i1 i2 i3 j)) (h : stepS vs i0 i1 i2 i3 x c = .ok c') :
    CfOk vs c' ∧ (c'.stk.length : Int) = ht c'.at' ∧ c.at' < c'.at' ∧ c'.at' ≤ l.length := by
  have hlt := (List.getElem?_eq_some_iff.1 hx).1
  have hca := hc.at' _ _ hx
  obtain ⟨a1, a2, a3, a4, a5⟩ := stepS_ok h hk ⟨hca.ok, by rw [hh]; exact hca.tk, by rw [hh]; exact hca.pt⟩ hi
  refine ⟨a1, ?_, a4, by omega⟩
  rcases a3 with ⟨h1, h2⟩ | ⟨h1, h2⟩
  · rw [h1, hca.nxt h2]; omega
  · rw [h1, hca.jmp h2]; omega
theorem cert_At {vs : List Vr} {l : List Ins} {ht : Nat → Int} (hc : Cert l vs.length ht) {c : Cf} {x : Ins} (hx : l[c.at']? = some x) (hh : (c.stk.length : Int) = ht c.at') : At vs l.length x c := by
  have hca := hc.at' _ _ hx
  exact ⟨hca.ok, by rw [hh]; exact hca.tk, by rw [hh]; exact hca.pt⟩
end Go.Proofs.Ytiifbdkedainnaa.AL
namespace Go.Proofs.Ytiifbdkedainnaa.AL
theorem stk_get {stk s : List Int} (h : stk.take s.length = s) {j : Nat} (hj : j < s.length) : stk[j]? = some (s.getD j 0) := by
  have : (stk.take s.length)[j]? = s[j]? := by rw [h]
  rw [List.getElem?_take, if_pos hj] at this
  rw [this, List.getD_eq_getElem?_getD, List.getElem?_eq_getElem hj]; rfl
theorem stk_le {stk s : List Int} (h : stk.take s.length = s) : s.length ≤ stk.length := by
  have := congrArg List.length h
  rw [List.length_take] at this; omega
theorem stk_push {stk s : List Int} (h : stk.take s.length = s) (hl : s.length < stk.length) (v : Int) : (stk.set s.length v).take (s ++ [v]).length = s ++ [v] := by
  rw [List.length_append, List.length_singleton, List.take_add_one, List.take_set_of_le (Nat.le_refl _), h]
  simp [hl]
theorem stk_take {stk s : List Int} (h : stk.take s.length = s) (k : Nat) (hk : k ≤ s.length) : stk.take (s.take k).length = s.take k := by
  rw [List.length_take, Nat.min_eq_left hk]
  conv => rhs; rw [← h]
  rw [List.take_take, Nat.min_eq_left hk]
end Go.Proofs.Ytiifbdkedainnaa.AL

/- Plain laws: the heights of a stack, step by step. -/
set_option linter.unusedVariables false
namespace Go.Proofs.Ytiifbdkedainnaa.AL
section
variable {len vars : Int} {x : Ins} {i : Nat} {hs : List Int} {y : Int}
theorem hLoop_cons (rest : List Ins) : hLoop len vars (x :: rest) i hs = match hStep len vars x i hs with
  | none => false
  | some hs' => hLoop len vars rest (i + 1) hs' := rfl
theorem hLoop_nil (hy : hs[i]? = some y) : hLoop len vars [] i hs = decide (y = 0) := by simp only [hLoop, hy]
theorem hStep_bad (hy : hs[i]? = some y) (h : y = -1 ∨ insOk x i len vars = false ∨ y < takes x.op) : hStep len vars x i hs = none := by
  simp only [hStep, hy, if_pos h]
theorem hStep_deep (hy : hs[i]? = some y) (h : 64 < y - takes x.op + puts x.op) : hStep len vars x i hs = none := by
  simp only [hStep, hy, if_pos h]
  split <;> rfl
theorem hStep_12 (hy : hs[i]? = some y) (h1 : ¬ (y = -1 ∨ insOk x i len vars = false ∨ y < takes x.op)) (h2 : ¬ 64 < y - takes x.op + puts x.op) (h : x.op = 12) :
    hStep len vars x i hs = match reachS hs x.n.toNat (y - takes x.op + puts x.op) with
      | none => none
      | some hs1 => reachS hs1 (i + 1) (y - takes x.op + puts x.op) := by
  simp only [hStep, hy, if_neg h1, if_neg h2, if_pos h]
  all_goals (cases reachS hs x.n.toNat (y - takes x.op + puts x.op) <;> rfl)
theorem hStep_13 (hy : hs[i]? = some y) (h1 : ¬ (y = -1 ∨ insOk x i len vars = false ∨ y < takes x.op)) (h2 : ¬ 64 < y - takes x.op + puts x.op) (h : x.op = 13) :
    hStep len vars x i hs = reachS hs x.n.toNat (y - takes x.op + puts x.op) := by
  simp only [hStep, hy, if_neg h1, if_neg h2, if_neg (show ¬ x.op = 12 by omega), if_pos h]
theorem hStep_go (hy : hs[i]? = some y) (h1 : ¬ (y = -1 ∨ insOk x i len vars = false ∨ y < takes x.op)) (h2 : ¬ 64 < y - takes x.op + puts x.op) (h : x.op ≠ 12) (h' : x.op ≠ 13) :
    hStep len vars x i hs = reachS hs (i + 1) (y - takes x.op + puts x.op) := by
  simp only [hStep, hy, if_neg h1, if_neg h2, if_neg h, if_neg h']
theorem reachS_ok {a : Nat} {h : Int} (hy : hs[a]? = some y) (hc : y = -1 ∨ y = h) : reachS hs a h = some (hs.set a h) := by
  simp only [reachS, hy, if_pos hc]
theorem reachS_no {a : Nat} {h : Int} (hy : hs[a]? = some y) (hc : ¬ (y = -1 ∨ y = h)) : reachS hs a h = none := by
  simp only [reachS, hy, if_neg hc]
end
/-- Heights as they may be. -/
def HsOk (hs : List Int) : Prop := ∀ y ∈ hs, -1 ≤ y ∧ y ≤ 64
theorem HsOk.get {hs : List Int} (h : HsOk hs) {i : Nat} {y : Int} (hy : hs[i]? = some y) : -1 ≤ y ∧ y ≤ 64 := h y (List.mem_of_getElem? hy)
theorem HsOk.set {hs : List Int} (h : HsOk hs) (a : Nat) {y : Int} (hy : -1 ≤ y ∧ y ≤ 64) : HsOk (hs.set a y) := by
  intro z hz
  rcases List.mem_or_eq_of_mem_set hz with hz | rfl
  · exact h z hz
  · exact hy
theorem HsOk.start (n : Nat) : HsOk (0 :: List.replicate n (-1)) := by
  intro y hy
  simp only [List.mem_cons, List.mem_replicate] at hy
  omega
theorem get_some {hs : List Int} {i : Nat} (h : i < hs.length) : ∃ y, hs[i]? = some y := ⟨hs[i], List.getElem?_eq_getElem h⟩
theorem fill_step {A B : List Int} (hl : A.length = B.length) {k : Nat} {x : Int} (hk : A[k]? = some x) : (A.take k ++ B.drop k).set k x = A.take (k + 1) ++ B.drop (k + 1) := by
  have hlt := (List.getElem?_eq_some_iff.1 hk).1
  have hx := (List.getElem?_eq_some_iff.1 hk).2
  rw [List.set_append_right (h := by rw [List.length_take]; omega), List.length_take, Nat.min_eq_left (by omega), Nat.sub_self, List.take_add_one, hk]
  rw [List.drop_eq_getElem_cons (show k < B.length by omega), List.set_cons_zero, Option.toList_some, List.append_assoc, List.singleton_append]
theorem insOk_jump {x : Ins} {i len vars : Int} (h : insOk x i len vars = true) (ho : x.op = 12 ∨ x.op = 13) : i < x.n ∧ x.n ≤ len := by
  unfold insOk at h
  rcases ho with ho | ho <;> simp [ho] at h <;> omega
theorem verH_eq {l : List Ins} {vars : Int} (h : l.length ≤ 4000) : verH l vars = hLoop l.length vars l 0 (0 :: List.replicate l.length (-1)) := by
  unfold verH; rw [decide_eq_true h, Bool.true_and]
end Go.Proofs.Ytiifbdkedainnaa.AL
namespace Go.Proofs.Ytiifbdkedainnaa.AL
theorem reachS_getD {hs : List Int} {a : Nat} {h : Int} (ha : a < hs.length) : reachS hs a h = if hs.getD a 0 = -1 ∨ hs.getD a 0 = h then some (hs.set a h) else none := by
  simp only [reachS, List.getD_eq_getElem?_getD, List.getElem?_eq_getElem ha, Option.getD_some]
theorem hStep_ok {len vars : Int} {x : Ins} {i : Nat} {hs : List Int} {y : Int} (hy : hs[i]? = some y) (hok : insOk x i len vars = true) (hl : (hs.length : Int) = len + 1) (hi : i + 1 < hs.length) :
    hStep len vars x i hs = if y = -1 ∨ y < takes x.op then none else if 64 < y - takes x.op + puts x.op then none else
      if x.op = 12 then (if hs.getD x.n.toNat 0 = -1 ∨ hs.getD x.n.toNat 0 = y - takes x.op + puts x.op then
        (if (hs.set x.n.toNat (y - takes x.op + puts x.op)).getD (i + 1) 0 = -1 ∨ (hs.set x.n.toNat (y - takes x.op + puts x.op)).getD (i + 1) 0 = y - takes x.op + puts x.op then some ((hs.set x.n.toNat (y - takes x.op + puts x.op)).set (i + 1) (y - takes x.op + puts x.op)) else none) else none)
      else if x.op = 13 then (if hs.getD x.n.toNat 0 = -1 ∨ hs.getD x.n.toNat 0 = y - takes x.op + puts x.op then some (hs.set x.n.toNat (y - takes x.op + puts x.op)) else none)
      else if hs.getD (i + 1) 0 = -1 ∨ hs.getD (i + 1) 0 = y - takes x.op + puts x.op then some (hs.set (i + 1) (y - takes x.op + puts x.op)) else none := by
  have hj := insOk_jump hok
  simp only [hStep, hy, hok, Bool.true_eq_false, false_or]
  split
  · rfl
  · split
    · rfl
    · split
      · rename_i h12
        have hn : x.n.toNat < hs.length := by have := hj (.inl h12); omega
        rw [reachS_getD hn]
        split
        · rename_i hs1 he
          split at he
          · cases he
          · rw [if_neg ‹_›]
        · rename_i hs1 he
          split at he
          · simp only [Option.some.injEq] at he; subst he
            rw [if_pos ‹_›, reachS_getD (by simpa using hi)]
          · cases he
      · split
        · rename_i h13
          have hn : x.n.toNat < hs.length := by have := hj (.inr h13); omega
          rw [reachS_getD hn]
        · rw [reachS_getD hi]
end Go.Proofs.Ytiifbdkedainnaa.AL

/- Plain laws: the stack machine as a whole. -/
set_option linter.unusedVariables false
namespace Go.Proofs.Ytiifbdkedainnaa.AL
def callOk (x : Cal) : Bool := decide (0 ≤ x.ev ∧ x.ev < 5 ∧ 1 ≤ x.i0 ∧ x.i0 ≤ 1000 ∧ 1 ≤ x.i1 ∧ x.i1 ≤ 10000000 ∧ 1 ≤ x.i2 ∧ x.i2 ≤ 10000 ∧ 0 ≤ x.i3 ∧ x.i3 ≤ 4000)
def stOk : List Vr → List Int → Bool
  | v :: vs, n :: ns => decide (-1000000000000 ≤ n ∧ n ≤ 1000000000000 ∧ v.low ≤ n ∧ n ≤ v.high) && stOk vs ns
  | [], [] => true
  | _, _ => false
theorem stOk_len : ∀ {vs : List Vr} {st : List Int}, stOk vs st = true → st.length = vs.length
  | [], [], _ => rfl
  | [], _ :: _, h => by simp [stOk] at h
  | _ :: _, [], h => by simp [stOk] at h
  | v :: vs, n :: ns, h => by
    simp only [stOk, Bool.and_eq_true] at h
    simp [stOk_len h.2]
theorem stOk_isV : ∀ {vs : List Vr} {st : List Int}, stOk vs st = true → ∀ n ∈ st, isV n
  | [], [], _, n, hn => by cases hn
  | [], _ :: _, h, _, _ => by simp [stOk] at h
  | _ :: _, [], h, _, _ => by simp [stOk] at h
  | v :: vs, m :: ns, h, n, hn => by
    simp only [stOk, Bool.and_eq_true, decide_eq_true_eq] at h
    rcases List.mem_cons.1 hn with rfl | hn
    · exact ⟨h.1.1, h.1.2.1⟩
    · exact stOk_isV h.2 n hn
def hand (c : Cod) (ev : Int) : List Ins := if ev = 0 then c.c0 else if ev = 1 then c.c1 else if ev = 2 then c.c2 else if ev = 3 then c.c3 else c.c4
def fitsS (vs : List Vr) (c : Cod) (st : List Int) (x : Cal) : Bool := verC c vs.length && (stOk vs st && callOk x)
def runS (vs : List Vr) (c : Cod) (st : List Int) (x : Cal) : Except Int (List Int) × Nat := traceS vs x.i0 x.i1 x.i2 x.i3 (hand c x.ev) ((hand c x.ev).length + 1) ⟨st, [], 0⟩ 0
def runE (r : Except Int (List Int)) : Int := match r with
  | .ok _ => 0
  | .error e => e
def runL (r : Except Int (List Int)) : List Int := match r with
  | .ok s => s
  | .error _ => []
theorem hand_ver {c : Cod} {vars ev : Int} (h : verC c vars = true) (h0 : 0 ≤ ev) (h5 : ev < 5) : verH (hand c ev) vars = true := by
  unfold verC at h
  simp only [Bool.and_eq_true] at h
  obtain ⟨_, h0, h1, h2, h3, h4⟩ := h
  unfold hand
  repeat' split
  all_goals assumption
theorem call_in {x : Cal} (h : callOk x = true) : ∀ j, isV (inS x.i0 x.i1 x.i2 x.i3 j) := by
  intro j
  unfold callOk at h
  have h := of_decide_eq_true h
  unfold inS isV
  repeat' split
  all_goals omega
section
variable {vs : List Vr} {i0 i1 i2 i3 : Int} {l : List Ins}
theorem trace_none {f n : Nat} {c : Cf} (h : l[c.at']? = none) : traceS vs i0 i1 i2 i3 l f c n = (.ok c.now, n) := by
  cases f with
  | zero => rfl
  | succ f => simp only [traceS, h]
theorem trace_err {f n : Nat} {c : Cf} {x : Ins} {e : Int} (h : l[c.at']? = some x) (hs : stepS vs i0 i1 i2 i3 x c = .error e) : traceS vs i0 i1 i2 i3 l (f + 1) c n = (.error e, n + 1) := by
  simp only [traceS, h, hs]
theorem trace_ok {f n : Nat} {c c' : Cf} {x : Ins} (h : l[c.at']? = some x) (hs : stepS vs i0 i1 i2 i3 x c = .ok c') : traceS vs i0 i1 i2 i3 l (f + 1) c n = traceS vs i0 i1 i2 i3 l f c' (n + 1) := by
  simp only [traceS, h, hs]
/-- Enough fuel, and one more: the same. -/
structure Going (vs : List Vr) (i0 i1 i2 i3 : Int) (l : List Ins) (ht : Nat → Int) (c : Cf) (n : Nat) : Prop where
  ok : CfOk vs c
  ht : (c.stk.length : Int) = ht c.at'
  le : c.at' ≤ l.length
  nle : n ≤ c.at'
end
end Go.Proofs.Ytiifbdkedainnaa.AL
namespace Go.Proofs.Ytiifbdkedainnaa.AL
/-- Where a run of a handler stands. -/
structure TInv (vs : List Vr) (i0 i1 i2 i3 : Int) (l : List Ins) (ht : Nat → Int) (st : List Int) (c : Cf) (n : Nat) : Prop where
  ok : CfOk vs c
  ht : (c.stk.length : Int) = ht c.at'
  le : c.at' ≤ l.length
  nle : n ≤ c.at'
  tr : ∃ f, l.length < f + c.at' ∧ traceS vs i0 i1 i2 i3 l (l.length + 1) ⟨st, [], 0⟩ 0 = traceS vs i0 i1 i2 i3 l f c n
section
variable {vs : List Vr} {i0 i1 i2 i3 : Int} {l : List Ins} {ht : Nat → Int} {st : List Int} {c c' : Cf} {n : Nat} {x : Ins}
theorem TInv.start (hc : Cert l vs.length ht) (hs : stOk vs st = true) : TInv vs i0 i1 i2 i3 l ht st ⟨st, [], 0⟩ 0 :=
  ⟨⟨stOk_len hs, stOk_isV hs, fun _ h => by cases h⟩, by simp [hc.zero], Nat.zero_le _, Nat.le_refl _, ⟨l.length + 1, by simp, rfl⟩⟩
theorem TInv.next (hc : Cert l vs.length ht) (hi : ∀ j, isV (inS i0 i1 i2 i3 j)) (t : TInv vs i0 i1 i2 i3 l ht st c n) (hx : l[c.at']? = some x) (hs : stepS vs i0 i1 i2 i3 x c = .ok c') :
    TInv vs i0 i1 i2 i3 l ht st c' (n + 1) ∧ l.length - c'.at' < l.length - c.at' := by
  obtain ⟨a1, a2, a3, a4⟩ := stepS_cert hc hx t.ok t.ht hi hs
  obtain ⟨f, f1, f2⟩ := t.tr
  have hlt := (List.getElem?_eq_some_iff.1 hx).1
  obtain ⟨g, rfl⟩ : ∃ g, f = g + 1 := ⟨f - 1, by omega⟩
  have := t.nle
  exact ⟨⟨a1, a2, a4, by omega, ⟨g, by omega, by rw [f2, trace_ok hx hs]⟩⟩, by omega⟩
theorem TInv.err (t : TInv vs i0 i1 i2 i3 l ht st c n) (hx : l[c.at']? = some x) {e : Int} (hs : stepS vs i0 i1 i2 i3 x c = .error e) :
    traceS vs i0 i1 i2 i3 l (l.length + 1) ⟨st, [], 0⟩ 0 = (.error e, n + 1) := by
  obtain ⟨f, f1, f2⟩ := t.tr
  have hlt := (List.getElem?_eq_some_iff.1 hx).1
  obtain ⟨g, rfl⟩ : ∃ g, f = g + 1 := ⟨f - 1, by omega⟩
  rw [f2, trace_err hx hs]
theorem TInv.stop (t : TInv vs i0 i1 i2 i3 l ht st c n) (hx : l[c.at']? = none) : traceS vs i0 i1 i2 i3 l (l.length + 1) ⟨st, [], 0⟩ 0 = (.ok c.now, n) := by
  obtain ⟨f, f1, f2⟩ := t.tr
  rw [f2, trace_none hx]
end
end Go.Proofs.Ytiifbdkedainnaa.AL
namespace Go.Proofs.Ytiifbdkedainnaa.AL
def dV : Vr := ⟨default, 0, 0, 0, 0⟩
theorem getEV {l : List Vr} {k : Nat} (h : k < l.length) : l[k]? = some (l.getD k dV) := by
  rw [List.getD_eq_getElem?_getD, List.getElem?_eq_getElem h]; rfl
theorem takes_2 {op : Int} (h : op = 12 ∨ (op ≠ 1 ∧ op ≠ 2 ∧ op ≠ 3 ∧ op ≠ 11 ∧ op ≠ 13)) : takes op = 2 := by
  unfold takes; rw [if_neg (by omega), if_neg (by omega)]
end Go.Proofs.Ytiifbdkedainnaa.AL
namespace Go.Proofs.Ytiifbdkedainnaa.AL
def refRunS (vs : List Vr) (c : Cod) (st : List Int) (x : Cal) : Except Int (List Int) := if fitsS vs c st x = true then (runS vs c st x).1 else .error 1
def stepsN (vs : List Vr) (c : Cod) (st : List Int) (x : Cal) : Int := if fitsS vs c st x = true then ((runS vs c st x).2 : Int) else 0
def stepsE (vs : List Vr) (c : Cod) (st : List Int) (x : Cal) : Int := if fitsS vs c st x = true then 0 else 1
theorem verC_vars {c : Cod} {vars : Int} (h : verC c vars = true) : 0 ≤ vars ∧ vars ≤ 12 := by
  unfold verC at h
  simp only [Bool.and_eq_true, decide_eq_true_eq] at h
  exact h.1
theorem fits_all {vs : List Vr} {c : Cod} {st : List Int} {x : Cal} (h : fitsS vs c st x = true) : verC c vs.length = true ∧ stOk vs st = true ∧ callOk x = true := by
  unfold fitsS at h
  simp only [Bool.and_eq_true] at h
  exact h
theorem call_ev {x : Cal} (h : callOk x = true) : 0 ≤ x.ev ∧ x.ev < 5 := by
  unfold callOk at h
  have h := of_decide_eq_true h
  exact ⟨h.1, h.2.1⟩
theorem hand_get {c : Cod} {ev : Int} (h : 0 ≤ ev ∧ ev < 5) : [AV.rs 3 (c.c0.map encI), .rs 3 (c.c1.map encI), .rs 3 (c.c2.map encI), .rs 3 (c.c3.map encI), .rs 3 (c.c4.map encI)][ev.toNat]? = some (.rs 3 ((hand c ev).map encI)) := by
  have : ev = 0 ∨ ev = 1 ∨ ev = 2 ∨ ev = 3 ∨ ev = 4 := by omega
  rcases this with rfl | rfl | rfl | rfl | rfl <;> rfl
end Go.Proofs.Ytiifbdkedainnaa.AL

/- Plain laws: the stack machine as a whole, continued. -/
set_option linter.unusedVariables false
namespace Go.Proofs.Ytiifbdkedainnaa.AL
theorem stOk_get : ∀ {vs : List Vr} {st : List Int} {k : Nat} {v : Vr} {n : Int}, stOk vs st = true → vs[k]? = some v → st[k]? = some n → -1000000000000 ≤ n ∧ n ≤ 1000000000000 ∧ v.low ≤ n ∧ n ≤ v.high
  | v :: vs, m :: ns, 0, _, _, h, hv, hn => by
    simp only [stOk, Bool.and_eq_true, decide_eq_true_eq] at h
    simp only [List.getElem?_cons_zero, Option.some.injEq] at hv hn
    subst hv; subst hn
    exact h.1
  | v :: vs, m :: ns, k + 1, _, _, h, hv, hn => by
    simp only [stOk, Bool.and_eq_true, decide_eq_true_eq] at h
    simp only [List.getElem?_cons_succ] at hv hn
    exact stOk_get h.2 hv hn
  | [], _, k, _, _, _, hv, _ => by simp at hv
  | _ :: _, [], k, _, _, _, _, hn => by simp at hn
end Go.Proofs.Ytiifbdkedainnaa.AL
namespace Go.Proofs.Ytiifbdkedainnaa.AL
theorem stepS_ne {vs : List Vr} {i0 i1 i2 i3 : Int} {x : Ins} {c : Cf} {e : Int} (h : stepS vs i0 i1 i2 i3 x c = .error e) : e ≠ 0 := by
  unfold stepS at h
  repeat' split at h
  all_goals first | (cases h; done) | (cases h; decide) | skip
  · rename_i hc
    cases h
    rcases calcS_err hc with h | h <;> omega
theorem trace_ne {vs : List Vr} {i0 i1 i2 i3 : Int} {l : List Ins} : ∀ {f : Nat} {c : Cf} {n : Nat} {e : Int}, (traceS vs i0 i1 i2 i3 l f c n).1 = .error e → e ≠ 0
  | 0, c, n, e, h => by simp [traceS] at h
  | f + 1, c, n, e, h => by
    simp only [traceS] at h
    split at h
    · simp at h
    · split at h
      · rename_i e' he
        simp only [Except.error.injEq] at h
        subst h
        exact stepS_ne he
      · exact trace_ne h
end Go.Proofs.Ytiifbdkedainnaa.AL
namespace Go.Proofs.Ytiifbdkedainnaa.AL
theorem stepS_len {vs : List Vr} {i0 i1 i2 i3 : Int} {x : Ins} {c c' : Cf} (h : stepS vs i0 i1 i2 i3 x c = .ok c') : c'.now.length = c.now.length := by
  unfold stepS at h
  repeat' split at h
  all_goals first | (cases h; done) | (cases h; rfl) | (cases h; simp) | skip
theorem trace_len {vs : List Vr} {i0 i1 i2 i3 : Int} {l : List Ins} : ∀ {f : Nat} {c : Cf} {n : Nat} {s : List Int}, (traceS vs i0 i1 i2 i3 l f c n).1 = .ok s → s.length = c.now.length
  | 0, c, n, s, h => by simp only [traceS, Except.ok.injEq] at h; rw [h]
  | f + 1, c, n, s, h => by
    simp only [traceS] at h
    split at h
    · simp only [Except.ok.injEq] at h; rw [h]
    · split at h
      · cases h
      · rename_i c' hc
        rw [trace_len h, stepS_len hc]
theorem refRun_len (vs : List Vr) (c : Cod) (st : List Int) (x : Cal) : (runL (refRunS vs c st x)).length ≤ st.length := by
  unfold refRunS
  split
  · cases h : (runS vs c st x).1 with
    | ok s => have := trace_len h; simp only [runL]; simp only at this; omega
    | error e => simp [runL]
  · simp [runL]
end Go.Proofs.Ytiifbdkedainnaa.AL

/- Plain laws: what a run of the stack machine leads to; two handlers put together. -/
set_option linter.unusedVariables false
namespace Go.Proofs.Ytiifbdkedainnaa.AL
/-- An instruction at k leads to j. -/
def leads (x : Ins) (k j : Nat) : Prop := (x.op ≠ 13 ∧ j = k + 1) ∨ ((x.op = 12 ∨ x.op = 13) ∧ j = x.n.toNat)
/-- The first i instructions lead to j. -/
def reached (l : List Ins) (i j : Nat) : Prop := j = 0 ∨ ∃ k x, k < i ∧ l[k]? = some x ∧ leads x k j
theorem reached_succ {l : List Ins} {i j : Nat} {x : Ins} (hx : l[i]? = some x) : reached l (i + 1) j ↔ reached l i j ∨ leads x i j := by
  constructor
  · rintro (h | ⟨k, y, h1, h2, h3⟩)
    · exact .inl (.inl h)
    · by_cases hk : k = i
      · subst hk; rw [hx] at h2; cases h2; exact .inr h3
      · exact .inl (.inr ⟨k, y, by omega, h2, h3⟩)
  · rintro ((h | ⟨k, y, h1, h2, h3⟩) | h)
    · exact .inl h
    · exact .inr ⟨k, y, by omega, h2, h3⟩
    · exact .inr ⟨i, x, by omega, hx, h⟩
theorem reached_mono {l : List Ins} {i i' j : Nat} (h : i ≤ i') (hr : reached l i j) : reached l i' j := by
  rcases hr with h1 | ⟨k, y, h1, h2, h3⟩
  · exact .inl h1
  · exact .inr ⟨k, y, by omega, h2, h3⟩
/-- A table of heights as far as they are known. -/
def HTab (hs : List Int) (ht : Nat → Int) (P : Nat → Prop) : Prop := ∀ j, j < hs.length → (P j → hs[j]? = some (ht j)) ∧ (¬ P j → hs[j]? = some (-1))
theorem reachS_tab {hs : List Int} {ht : Nat → Int} {P : Nat → Prop} {a : Nat} {h : Int} (ha : a < hs.length) (hT : HTab hs ht P) (hh : ht a = h) :
    reachS hs a h = some (hs.set a h) ∧ HTab (hs.set a h) ht (fun j => P j ∨ j = a) := by
  obtain ⟨h1, h2⟩ := hT a ha
  have : hs.getD a 0 = -1 ∨ hs.getD a 0 = h := by
    by_cases hp : P a
    · right; rw [List.getD_eq_getElem?_getD, h1 hp, hh]; rfl
    · left; rw [List.getD_eq_getElem?_getD, h2 hp]; rfl
  refine ⟨by rw [reachS_getD ha, if_pos this], fun j hj => ?_⟩
  rw [List.length_set] at hj
  by_cases hja : j = a
  · subst hja
    refine ⟨fun _ => by rw [List.getElem?_set_self hj, hh], fun hn => absurd (.inr rfl) hn⟩
  · obtain ⟨g1, g2⟩ := hT j hj
    rw [List.getElem?_set_ne (Ne.symm hja)]
    exact ⟨fun hp => g1 (hp.resolve_right hja), fun hn => g2 fun hp => hn (.inl hp)⟩
theorem hStep_tab {l : List Ins} {vars : Int} {ht : Nat → Int} {x : Ins} {i : Nat} {hs : List Int} (hc : CertAt l.length vars ht x i) (hx : l[i]? = some x) (hl : hs.length = l.length + 1) (hT : HTab hs ht (reached l i)) (hr : reached l i i) :
    ∃ hs', hStep l.length vars x i hs = some hs' ∧ hs'.length = l.length + 1 ∧ HTab hs' ht (reached l (i + 1)) := by
  have hlt := (List.getElem?_eq_some_iff.1 hx).1
  have hi := (hT i (by omega)).1 hr
  have t1 := takes_nn x.op
  have t2 := puts_nn x.op
  have c1 := hc.tk
  have c2 := hc.pt
  have n1 : ¬ (ht i = -1 ∨ insOk x i l.length vars = false ∨ ht i < takes x.op) := by
    rw [hc.ok]; rintro (h | h | h)
    · omega
    · cases h
    · omega
  have n2 : ¬ 64 < ht i - takes x.op + puts x.op := by omega
  have key : ∀ {hs' : List Int} {P : Nat → Prop}, HTab hs' ht P → (∀ j, P j ↔ reached l (i + 1) j) → HTab hs' ht (reached l (i + 1)) := by
    intro hs' P h hp
    have : P = reached l (i + 1) := funext fun j => propext (hp j)
    rw [← this]; exact h
  by_cases h12 : x.op = 12
  · rw [hStep_12 hi n1 n2 h12]
    have hj := insOk_jump hc.ok (.inl h12)
    obtain ⟨e1, T1⟩ := reachS_tab (a := x.n.toNat) (by omega) hT (hc.jmp (.inl h12))
    obtain ⟨e2, T2⟩ := reachS_tab (a := i + 1) (by rw [List.length_set]; omega) T1 (hc.nxt (by omega))
    rw [e1]
    refine ⟨_, e2, by simpa using hl, key T2 fun j => ?_⟩
    rw [reached_succ hx]
    unfold leads
    constructor
    · rintro ((h | h) | h)
      · exact .inl h
      · exact .inr (.inr ⟨.inl h12, h⟩)
      · exact .inr (.inl ⟨by omega, h⟩)
    · rintro (h | ⟨_, h⟩ | ⟨_, h⟩)
      · exact .inl (.inl h)
      · exact .inr h
      · exact .inl (.inr h)
  · by_cases h13 : x.op = 13
    · rw [hStep_13 hi n1 n2 h13]
      have hj := insOk_jump hc.ok (.inr h13)
      obtain ⟨e1, T1⟩ := reachS_tab (a := x.n.toNat) (by omega) hT (hc.jmp (.inr h13))
      refine ⟨_, e1, by simpa using hl, key T1 fun j => ?_⟩
      rw [reached_succ hx]
      unfold leads
      constructor
      · rintro (h | h)
        · exact .inl h
        · exact .inr (.inr ⟨.inr h13, h⟩)
      · rintro (h | ⟨h, _⟩ | ⟨_, h⟩)
        · exact .inl h
        · exact absurd h13 h
        · exact .inr h
    · rw [hStep_go hi n1 n2 h12 h13]
      obtain ⟨e1, T1⟩ := reachS_tab (a := i + 1) (by omega) hT (hc.nxt h13)
      refine ⟨_, e1, by simpa using hl, key T1 fun j => ?_⟩
      rw [reached_succ hx]
      unfold leads
      constructor
      · rintro (h | h)
        · exact .inl h
        · exact .inr (.inl ⟨h13, h⟩)
      · rintro (h | ⟨_, h⟩ | ⟨h, _⟩)
        · exact .inl h
        · exact .inr h
        · omega
theorem hLoop_of {l : List Ins} {vars : Int} {ht : Nat → Int} (hc : Cert l vars ht) (hr : ∀ i, i ≤ l.length → reached l i i) :
    ∀ (rest : List Ins) (i : Nat) (hs : List Int), l.drop i = rest → i ≤ l.length → hs.length = l.length + 1 → HTab hs ht (reached l i) → hLoop l.length vars rest i hs = true
  | [], i, hs, hd, hi, hl, hT => by
    have hil : i = l.length := by
      have := congrArg List.length hd
      simp at this; omega
    subst hil
    rw [hLoop_nil ((hT _ (by omega)).1 (hr _ (Nat.le_refl _))), hc.last]; rfl
  | x :: rest, i, hs, hd, hi, hl, hT => by
    have hx : l[i]? = some x := by
      have := List.getElem?_drop (xs := l) (i := i) (j := 0)
      rw [hd] at this; simpa using this.symm
    have hlt := (List.getElem?_eq_some_iff.1 hx).1
    obtain ⟨hs', e, hl', hT'⟩ := hStep_tab (hc.at' _ _ hx) hx hl hT (hr i hi)
    rw [hLoop_cons, e]
    refine hLoop_of hc hr rest (i + 1) hs' ?_ hlt hl' hT'
    rw [← List.drop_drop, hd]; rfl
theorem hLoop_reach {l : List Ins} {vars : Int} : ∀ (rest : List Ins) (i : Nat) (hs : List Int), l.drop i = rest → i ≤ l.length → (∀ (j : Nat) (y : Int), hs[j]? = some y → y ≠ -1 → reached l i j) → hLoop l.length vars rest i hs = true →
    ∀ k, i ≤ k → k ≤ l.length → reached l k k
  | [], i, hs, hd, hi, hR, h, k, hk, hkl => by
    have hil : i = l.length := by
      have := congrArg List.length hd
      simp at this; omega
    have : k = i := by omega
    subst this
    unfold hLoop at h
    split at h
    · rename_i y hy
      have h : y = 0 := by simpa using h
      exact hR _ _ hy (by omega)
    · cases h
  | x :: rest, i, hs, hd, hi, hR, h, k, hk, hkl => by
    have hx : l[i]? = some x := by
      have := List.getElem?_drop (xs := l) (i := i) (j := 0)
      rw [hd] at this; simpa using this.symm
    have hlt := (List.getElem?_eq_some_iff.1 hx).1
    rw [hLoop_cons] at h
    cases e : hStep l.length vars x i hs with
    | none => rw [e] at h; cases h
    | some hs' =>
      rw [e] at h
      obtain ⟨y, a1, a2, a3, a4, a5, a6, a7, a8⟩ := hStep_get e
      by_cases hki : k = i
      · subst hki; exact hR _ _ a1 a2
      have inv : ∀ (j : Nat) (z : Int), hs'[j]? = some z → z ≠ -1 → reached l (i + 1) j := by
        intro j z hj hz
        rw [reached_succ hx]
        have back : ∀ {hs1 hs2 : List Int} {a : Nat} {h : Int}, reachS hs1 a h = some hs2 → hs2[j]? = some z → j = a ∨ hs1[j]? = some z := by
          intro hs1 hs2 a h' er hj2
          unfold reachS at er
          split at er
          · cases er
          · split at er
            · simp only [Option.some.injEq] at er; subst er
              by_cases hja : j = a
              · exact .inl hja
              · right; rwa [List.getElem?_set_ne (Ne.symm hja)] at hj2
            · cases er
        have n1 : ¬ (y = -1 ∨ insOk x i l.length vars = false ∨ y < takes x.op) := by
          rw [a3]; rintro (h | h | h)
          · exact a2 h
          · cases h
          · omega
        have n2 : ¬ 64 < y - takes x.op + puts x.op := by omega
        by_cases h12 : x.op = 12
        · rw [hStep_12 a1 n1 n2 h12] at e
          split at e
          · cases e
          · rename_i hs1 e1
            rcases back e hj with hb | hb
            · exact .inr (.inl ⟨by omega, hb⟩)
            · rcases back e1 hb with hb | hb
              · exact .inr (.inr ⟨.inl h12, hb⟩)
              · exact .inl (hR _ _ hb hz)
        · by_cases h13 : x.op = 13
          · rw [hStep_13 a1 n1 n2 h13] at e
            rcases back e hj with hb | hb
            · exact .inr (.inr ⟨.inr h13, hb⟩)
            · exact .inl (hR _ _ hb hz)
          · rw [hStep_go a1 n1 n2 h12 h13] at e
            rcases back e hj with hb | hb
            · exact .inr (.inl ⟨h13, hb⟩)
            · exact .inl (hR _ _ hb hz)
      exact hLoop_reach rest (i + 1) hs' (by rw [← List.drop_drop, hd]; rfl) hlt inv h k (by omega) hkl
theorem verH_iff {l : List Ins} {vars : Int} : verH l vars = true ↔ ∃ ht, Cert l vars ht ∧ ∀ i, i ≤ l.length → reached l i i := by
  constructor
  · intro h
    obtain ⟨ht, hc⟩ := verH_cert h
    refine ⟨ht, hc, ?_⟩
    rw [verH_eq hc.len] at h
    intro i hi
    refine hLoop_reach l 0 _ rfl (Nat.zero_le _) ?_ h i (Nat.zero_le _) hi
    intro j y hj hy
    cases j with
    | zero => exact .inl rfl
    | succ j =>
      simp only [List.getElem?_cons_succ, List.getElem?_replicate] at hj
      split at hj
      · simp at hj; omega
      · cases hj
  · rintro ⟨ht, hc, hr⟩
    rw [verH_eq hc.len]
    refine hLoop_of hc hr l 0 _ rfl (Nat.zero_le _) (by simp) ?_
    intro j hj
    have r0 : reached l 0 j ↔ j = 0 := by
      constructor
      · rintro (h | ⟨k, _, h, _⟩)
        · exact h
        · omega
      · exact .inl
    rw [r0]
    cases j with
    | zero => simp [hc.zero]
    | succ j =>
      simp only [List.length_cons, List.length_replicate] at hj
      simp only [List.getElem?_cons_succ, List.getElem?_replicate]
      refine ⟨by omega, fun _ => by rw [if_pos (by omega)]⟩
/-- The second handler's instructions behind n others. -/
def shI (n : Int) (x : Ins) : Ins := if x.op = 12 ∨ x.op = 13 then ⟨x.op, x.n + n, x.rel⟩ else x
def joinS (a b : List Ins) : List Ins := a ++ b.map (shI a.length)
theorem shI_op (n : Int) (x : Ins) : (shI n x).op = x.op := by unfold shI; split <;> rfl
theorem shI_rel (n : Int) (x : Ins) : (shI n x).rel = x.rel := by unfold shI; split <;> rfl
theorem shI_n {n : Int} {x : Ins} : (shI n x).n = if x.op = 12 ∨ x.op = 13 then x.n + n else x.n := by unfold shI; split <;> rfl
theorem insOk_mono {x : Ins} {i len len' vars : Int} (h : insOk x i len vars = true) (hl : len ≤ len') : insOk x i len' vars = true := by
  unfold insOk at h ⊢
  repeat' split at h
  all_goals simp_all
  all_goals omega
theorem insOk_sh {x : Ins} {i len vars n : Int} (h : insOk x i len vars = true) : insOk (shI n x) (n + i) (n + len) vars = true := by
  unfold shI
  split
  · rename_i ho
    unfold insOk at h ⊢
    rcases ho with ho | ho <;> simp [ho] at h ⊢ <;> omega
  · rename_i ho
    have h1 : x.op ≠ 12 := fun e => ho (.inl e)
    have h2 : x.op ≠ 13 := fun e => ho (.inr e)
    unfold insOk at h ⊢
    simp only [if_neg h1, if_neg h2] at h ⊢
    exact h
theorem joinS_left {a b : List Ins} {i : Nat} (h : i < a.length) : (joinS a b)[i]? = a[i]? := by
  unfold joinS; rw [List.getElem?_append_left h]
theorem joinS_right {a b : List Ins} {i : Nat} : (joinS a b)[a.length + i]? = (b[i]?).map (shI a.length) := by
  unfold joinS; rw [List.getElem?_append_right (by omega), Nat.add_sub_cancel_left, List.getElem?_map]
theorem joinS_len {a b : List Ins} : (joinS a b).length = a.length + b.length := by simp [joinS]
theorem verH_join {a b : List Ins} {vars : Int} (ha : verH a vars = true) (hb : verH b vars = true) (hl : a.length + b.length ≤ 4000) : verH (joinS a b) vars = true := by
  obtain ⟨h1, c1, r1⟩ := verH_iff.1 ha
  obtain ⟨h2, c2, r2⟩ := verH_iff.1 hb
  have hL : ((joinS a b).length : Int) = a.length + b.length := by rw [joinS_len]; omega
  rw [verH_iff]
  refine ⟨fun j => if j ≤ a.length then h1 j else h2 (j - a.length), ⟨by rw [joinS_len]; exact hl, by simp [c1.zero], fun i x hx => ?_, ?_⟩, fun i hi => ?_⟩
  · rcases Nat.lt_or_ge i a.length with hlt | hge
    · rw [joinS_left hlt] at hx
      have hc := c1.at' _ _ hx
      refine ⟨insOk_mono hc.ok (by omega), ?_, ?_, fun h => ?_, fun h => ?_⟩
      · simp only [if_pos (Nat.le_of_lt hlt)]; exact hc.tk
      · simp only [if_pos (Nat.le_of_lt hlt)]; exact hc.pt
      · simp only [if_pos (Nat.le_of_lt hlt), if_pos (show i + 1 ≤ a.length from hlt)]; exact hc.nxt h
      · have hj := insOk_jump hc.ok h
        simp only [if_pos (Nat.le_of_lt hlt), if_pos (show x.n.toNat ≤ a.length by omega)]; exact hc.jmp h
    · obtain ⟨k, rfl⟩ : ∃ k, i = a.length + k := ⟨i - a.length, by omega⟩
      rw [joinS_right, Option.map_eq_some_iff] at hx
      obtain ⟨y, hy, rfl⟩ := hx
      have hc := c2.at' _ _ hy
      have e0 : (if a.length + k ≤ a.length then h1 (a.length + k) else h2 (a.length + k - a.length)) = h2 k := by
        split
        · have : k = 0 := by omega
          subst this; rw [Nat.add_zero, c1.last, c2.zero]
        · rw [Nat.add_sub_cancel_left]
      have e1 : (if a.length + k + 1 ≤ a.length then h1 (a.length + k + 1) else h2 (a.length + k + 1 - a.length)) = h2 (k + 1) := by
        rw [if_neg (by omega)]; congr 1; omega
      refine ⟨?_, ?_, ?_, fun h => ?_, fun h => ?_⟩
      · have := insOk_sh (n := a.length) hc.ok
        rw [hL]
        rwa [show ((a.length + k : Nat) : Int) = (a.length : Int) + k by omega]
      · rw [shI_op]; (try dsimp only); rw [e0]; exact hc.tk
      · rw [shI_op]; (try dsimp only); rw [e0]; exact hc.pt
      · rw [shI_op] at h ⊢; (try dsimp only); rw [e0, e1]; exact hc.nxt h
      · rw [shI_op] at h ⊢; (try dsimp only)
        have hj := insOk_jump hc.ok h
        rw [shI_n, if_pos h, if_neg (by omega), e0]
        rw [show (y.n + (a.length : Int)).toNat - a.length = y.n.toNat by omega]
        exact hc.jmp h
  · (try dsimp only)
    rw [joinS_len]
    split
    · have : b.length = 0 := by omega
      rw [this, Nat.add_zero, c1.last]
    · rw [Nat.add_sub_cancel_left, c2.last]
  · rw [joinS_len] at hi
    have left : ∀ i, i ≤ a.length → ∀ j, reached a i j → reached (joinS a b) i j := by
      rintro i hi j (h | ⟨k, x, q1, q2, q3⟩)
      · exact .inl h
      · exact .inr ⟨k, x, q1, by rw [joinS_left (by omega)]; exact q2, q3⟩
    rcases Nat.lt_or_ge a.length i with hlt | hge
    · obtain ⟨k, rfl⟩ : ∃ k, i = a.length + k := ⟨i - a.length, by omega⟩
      rcases r2 k (by omega) with h | ⟨m, x, q1, q2, q3⟩
      · omega
      · have hj := insOk_jump (c2.at' _ _ q2).ok
        refine .inr ⟨a.length + m, shI a.length x, by omega, by rw [joinS_right, q2]; rfl, ?_⟩
        rcases q3 with ⟨g1, g2⟩ | ⟨g1, g2⟩
        · exact .inl ⟨by rw [shI_op]; exact g1, by omega⟩
        · have := hj g1
          refine .inr ⟨by rw [shI_op]; exact g1, ?_⟩
          rw [shI_n, if_pos g1]; omega
    · exact left i hge i (r1 i hge)
end Go.Proofs.Ytiifbdkedainnaa.AL

/- Plain laws: states, parts and handlers of the stack machine. -/
set_option linter.unusedVariables false
namespace Go.Proofs.Ytiifbdkedainnaa.AL
section
variable {vs : List Vr} {i0 i1 i2 i3 : Int} {l : List Ins} {ht : Nat → Int}
theorem trace_law {P : Cf → Prop} (hc : Cert l vs.length ht) (hi : ∀ j, isV (inS i0 i1 i2 i3 j))
    (hP : ∀ c c' x, l[c.at']? = some x → CfOk vs c → At vs l.length x c → P c → stepS vs i0 i1 i2 i3 x c = .ok c' → P c') :
    ∀ (f : Nat) (c : Cf) (n : Nat), CfOk vs c → (c.stk.length : Int) = ht c.at' → c.at' ≤ l.length → n ≤ c.at' → P c → l.length < f + c.at' →
      (∀ s, (traceS vs i0 i1 i2 i3 l f c n).1 = .ok s → ∃ c', c'.now = s ∧ CfOk vs c' ∧ P c') ∧ (∀ e, (traceS vs i0 i1 i2 i3 l f c n).1 = .error e → e = 3 ∨ e = 14 ∨ e = 15) ∧
        (traceS vs i0 i1 i2 i3 l f c n).2 ≤ l.length ∧ n ≤ (traceS vs i0 i1 i2 i3 l f c n).2 ∧ ∀ x, l[c.at']? = some x → n + 1 ≤ (traceS vs i0 i1 i2 i3 l f c n).2
  | 0, c, n, h1, h2, h3, h4, h5, h6 => by omega
  | f + 1, c, n, h1, h2, h3, h4, h5, h6 => by
    cases hx : l[c.at']? with
    | none =>
      rw [trace_none hx]
      refine ⟨fun s e => ⟨c, Except.ok.inj e, h1, h5⟩, fun e h => (by cases h), by dsimp only; omega, Nat.le_refl _, fun x h => by cases h⟩
    | some x =>
      have hlt := (List.getElem?_eq_some_iff.1 hx).1
      cases hs : stepS vs i0 i1 i2 i3 x c with
      | error e =>
        rw [trace_err hx hs]
        refine ⟨fun s h => (by cases h), fun e' h => ?_, by dsimp only; omega, by dsimp only; omega, fun _ _ => Nat.le_refl _⟩
        obtain rfl : e = e' := by simpa using h
        exact stepS_err hs (cert_At hc hx h2)
      | ok c' =>
        rw [trace_ok hx hs]
        obtain ⟨a1, a2, a3, a4⟩ := stepS_cert hc hx h1 h2 hi hs
        obtain ⟨b1, b2, b3, b4, b5⟩ := trace_law hc hi hP f c' (n + 1) a1 a2 a4 (by omega) (hP c c' x hx h1 (cert_At hc hx h2) h5 hs) (by omega)
        exact ⟨b1, b2, b3, by omega, fun _ _ => b4⟩
theorem stOk_set : ∀ {vs : List Vr} {st : List Int} {k : Nat} {v : Vr} {n : Int}, stOk vs st = true → vs[k]? = some v → isV n → v.low ≤ n → n ≤ v.high → stOk vs (st.set k n) = true
  | v :: vs, m :: ns, 0, _, _, h, hv, h1, h2, h3 => by
    simp only [stOk, Bool.and_eq_true, decide_eq_true_eq] at h
    simp only [List.getElem?_cons_zero, Option.some.injEq] at hv
    subst hv
    simp only [List.set_cons_zero, stOk, Bool.and_eq_true, decide_eq_true_eq]
    exact ⟨⟨h1.1, h1.2, h2, h3⟩, h.2⟩
  | v :: vs, m :: ns, k + 1, _, _, h, hv, h1, h2, h3 => by
    simp only [stOk, Bool.and_eq_true, decide_eq_true_eq] at h
    simp only [List.getElem?_cons_succ] at hv
    simp only [List.set_cons_succ, stOk, Bool.and_eq_true, decide_eq_true_eq]
    exact ⟨h.1, stOk_set h.2 hv h1 h2 h3⟩
  | [], [], k, _, _, _, hv, _, _, _ => by simp at hv
  | [], _ :: _, k, _, _, h, _, _, _, _ => by simp [stOk] at h
  | _ :: _, [], k, _, _, h, _, _, _, _ => by simp [stOk] at h
/-- Is a variable stored? -/
def storedS (l : List Ins) (i : Nat) : Prop := ∃ x ∈ l, x.op = 11 ∧ x.n = i
theorem stepS_state {st : List Int} {c c' : Cf} {x : Ins} (hx : x ∈ l) (hk : CfOk vs c) (ha : At vs l.length x c) (h1 : stOk vs c.now = true) (h2 : ∀ i, ¬ storedS l i → c.now[i]? = st[i]?) (hs : stepS vs i0 i1 i2 i3 x c = .ok c') :
    stOk vs c'.now = true ∧ ∀ i, ¬ storedS l i → c'.now[i]? = st[i]? := by
  have hok := ha.ok
  have htk := ha.tk
  unfold stepS at hs
  repeat' split at hs
  all_goals first | (cases hs; done) | (cases hs; exact ⟨h1, h2⟩) | skip
  rename_i q1 q2 q3 q11 _ vr hv hb
  cases hs
  have htk' : 1 ≤ c.stk.length := by simp [takes, q11] at htk; omega
  have hm := hk.stkV _ (getD_mem (l := c.stk) (k := c.stk.length - 1) (by omega))
  refine ⟨stOk_set h1 hv hm hb.1 hb.2, fun i hi => ?_⟩
  dsimp only
  rw [List.getElem?_set_ne]
  · exact h2 i hi
  · intro e
    have hn : 0 ≤ x.n := by unfold insOk at hok; simp [q11] at hok; omega
    exact hi ⟨x, hx, q11, by omega⟩
theorem run_states {vs : List Vr} {c : Cod} {st : List Int} {x : Cal} (h : fitsS vs c st x = true) :
    (∀ s, (runS vs c st x).1 = .ok s → stOk vs s = true ∧ ∀ i, ¬ storedS (hand c x.ev) i → s[i]? = st[i]?) ∧ (∀ e, (runS vs c st x).1 = .error e → e = 3 ∨ e = 14 ∨ e = 15) ∧
      (runS vs c st x).2 ≤ (hand c x.ev).length ∧ (1 ≤ (runS vs c st x).2 ∨ (hand c x.ev).length = 0) := by
  obtain ⟨f1, f2, f3⟩ := fits_all h
  obtain ⟨e1, e2⟩ := call_ev f3
  obtain ⟨ht, hc⟩ := verH_cert (hand_ver f1 e1 e2)
  obtain ⟨b1, b2, b3, b4, b5⟩ := trace_law (P := fun c' => stOk vs c'.now = true ∧ ∀ i, ¬ storedS (hand c x.ev) i → c'.now[i]? = st[i]?) hc (call_in f3)
    (fun c1 c2 y hy hk ha hp hs => stepS_state (List.mem_of_getElem? hy) hk ha hp.1 hp.2 hs) ((hand c x.ev).length + 1) ⟨st, [], 0⟩ 0 ⟨stOk_len f2, stOk_isV f2, fun _ h => by cases h⟩ (by simp [hc.zero]) (Nat.zero_le _) (Nat.le_refl _) ⟨f2, fun _ _ => rfl⟩ (by simp)
  refine ⟨fun s hs => ?_, b2, b3, ?_⟩
  · obtain ⟨c', rfl, _, q⟩ := b1 s hs
    exact q
  · cases hl : (hand c x.ev)[0]? with
    | none => right; simpa using hl
    | some y => left; exact b5 y hl
theorem trace_fuel (hc : Cert l vs.length ht) (hi : ∀ j, isV (inS i0 i1 i2 i3 j)) : ∀ (f g : Nat) (c : Cf) (n : Nat), CfOk vs c → (c.stk.length : Int) = ht c.at' → c.at' ≤ l.length → l.length < f + c.at' → l.length < g + c.at' →
    traceS vs i0 i1 i2 i3 l f c n = traceS vs i0 i1 i2 i3 l g c n
  | 0, g, c, n, h1, h2, h3, h4, h5 => by omega
  | f + 1, 0, c, n, h1, h2, h3, h4, h5 => by omega
  | f + 1, g + 1, c, n, h1, h2, h3, h4, h5 => by
    cases hx : l[c.at']? with
    | none => rw [trace_none hx, trace_none hx]
    | some x =>
      cases hs : stepS vs i0 i1 i2 i3 x c with
      | error e => rw [trace_err hx hs, trace_err hx hs]
      | ok c' =>
        rw [trace_ok hx hs, trace_ok hx hs]
        obtain ⟨a1, a2, a3, a4⟩ := stepS_cert hc hx h1 h2 hi hs
        exact trace_fuel hc hi f g c' (n + 1) a1 a2 a4 (by omega) (by omega)
theorem stepS_sh {k : Nat} {x : Ins} {c : Cf} (hn : x.op = 12 ∨ x.op = 13 → 0 ≤ x.n) :
    stepS vs i0 i1 i2 i3 (shI k x) ⟨c.now, c.stk, k + c.at'⟩ = match stepS vs i0 i1 i2 i3 x c with
      | .ok c' => .ok ⟨c'.now, c'.stk, k + c'.at'⟩
      | .error e => .error e := by
  have ho : (shI k x).op = x.op := shI_op _ _
  have hr : (shI k x).rel = x.rel := shI_rel _ _
  unfold stepS
  rw [ho, hr]
  by_cases h1 : x.op = 1
  · simp only [if_pos h1, shI_n, if_neg (show ¬ (x.op = 12 ∨ x.op = 13) by omega), Nat.add_assoc]
  by_cases h2 : x.op = 2
  · simp only [if_neg h1, if_pos h2, shI_n, if_neg (show ¬ (x.op = 12 ∨ x.op = 13) by omega), Nat.add_assoc]
  by_cases h3 : x.op = 3
  · simp only [if_neg h1, if_neg h2, if_pos h3, shI_n, if_neg (show ¬ (x.op = 12 ∨ x.op = 13) by omega), Nat.add_assoc]
  by_cases h11 : x.op = 11
  · simp only [if_neg h1, if_neg h2, if_neg h3, if_pos h11, shI_n, if_neg (show ¬ (x.op = 12 ∨ x.op = 13) by omega)]
    cases vs[x.n.toNat]? with
    | none => rfl
    | some v => dsimp only; split <;> simp [Nat.add_assoc]
  by_cases h12 : x.op = 12
  · have := hn (.inl h12)
    simp only [if_neg h1, if_neg h2, if_neg h3, if_neg h11, if_pos h12, shI_n, if_pos (show (x.op = 12 ∨ x.op = 13) from .inl h12)]
    congr 2
    split <;> omega
  by_cases h13 : x.op = 13
  · have := hn (.inr h13)
    simp only [if_neg h1, if_neg h2, if_neg h3, if_neg h11, if_neg h12, if_pos h13, shI_n, if_pos (show (x.op = 12 ∨ x.op = 13) from .inr h13)]
    congr 2
    omega
  · simp only [if_neg h1, if_neg h2, if_neg h3, if_neg h11, if_neg h12, if_neg h13]
    cases calcS x.op (c.stk.getD (c.stk.length - 2) 0) (c.stk.getD (c.stk.length - 1) 0) with
    | ok v => simp [Nat.add_assoc]
    | error e => rfl
theorem trace_right {a b : List Ins} (hn : ∀ x ∈ b, x.op = 12 ∨ x.op = 13 → 0 ≤ x.n) (m : Nat) : ∀ (f : Nat) (c : Cf) (n : Nat),
    traceS vs i0 i1 i2 i3 (joinS a b) f ⟨c.now, c.stk, a.length + c.at'⟩ (m + n) = ((traceS vs i0 i1 i2 i3 b f c n).1, m + (traceS vs i0 i1 i2 i3 b f c n).2)
  | 0, c, n => rfl
  | f + 1, c, n => by
    cases hx : b[c.at']? with
    | none => rw [trace_none hx, trace_none (by dsimp only; rw [joinS_right, hx]; rfl)]
    | some x =>
      have hx' : (joinS a b)[a.length + c.at']? = some (shI a.length x) := by rw [joinS_right, hx]; rfl
      have hs' := stepS_sh (vs := vs) (i0 := i0) (i1 := i1) (i2 := i2) (i3 := i3) (k := a.length) (c := c) (hn x (List.mem_of_getElem? hx))
      cases hs : stepS vs i0 i1 i2 i3 x c with
      | error e =>
        rw [hs] at hs'
        rw [trace_err hx hs, trace_err hx' hs']; rfl
      | ok c' =>
        rw [hs] at hs'
        rw [trace_ok hx hs, trace_ok hx' hs']
        exact trace_right hn m f c' (n + 1)
theorem trace_left {a b : List Ins} {hta htb : Nat → Int} (hca : Cert a vs.length hta) (hcb : Cert b vs.length htb) (hi : ∀ j, isV (inS i0 i1 i2 i3 j)) (hn : ∀ x ∈ b, x.op = 12 ∨ x.op = 13 → 0 ≤ x.n) :
    ∀ (fa f : Nat) (c : Cf) (n : Nat), CfOk vs c → (c.stk.length : Int) = hta c.at' → c.at' ≤ a.length → a.length < fa + c.at' → a.length + b.length < f + c.at' →
      (∀ e, (traceS vs i0 i1 i2 i3 a fa c n).1 = .error e → traceS vs i0 i1 i2 i3 (joinS a b) f c n = traceS vs i0 i1 i2 i3 a fa c n) ∧
        ∀ s, (traceS vs i0 i1 i2 i3 a fa c n).1 = .ok s → traceS vs i0 i1 i2 i3 (joinS a b) f c n = ((traceS vs i0 i1 i2 i3 b (b.length + 1) ⟨s, [], 0⟩ 0).1, (traceS vs i0 i1 i2 i3 a fa c n).2 + (traceS vs i0 i1 i2 i3 b (b.length + 1) ⟨s, [], 0⟩ 0).2)
  | 0, f, c, n, h1, h2, h3, h4, h5 => by omega
  | fa + 1, 0, c, n, h1, h2, h3, h4, h5 => by omega
  | fa + 1, f + 1, c, n, h1, h2, h3, h4, h5 => by
    cases hx : a[c.at']? with
    | none =>
      have he : c.at' = a.length := by
        have := List.getElem?_eq_none_iff.1 hx; omega
      have hs0 : c.stk = [] := by
        rw [he, hca.last] at h2
        exact List.eq_nil_of_length_eq_zero (by omega)
      rw [trace_none hx]
      refine ⟨fun e h => (by cases h), fun s h => ?_⟩
      obtain rfl : c.now = s := by simpa using h
      have hr := trace_right (vs := vs) (i0 := i0) (i1 := i1) (i2 := i2) (i3 := i3) (a := a) hn n (f + 1) ⟨c.now, [], 0⟩ 0
      have hc' : c = ⟨c.now, [], a.length⟩ := by cases c; simp only at he hs0; simp [he, hs0]
      simp only [Nat.add_zero] at hr
      rw [← hc'] at hr
      rw [hr, trace_fuel hcb hi (f + 1) (b.length + 1) ⟨c.now, [], 0⟩ 0 ⟨h1.now, h1.nowV, fun _ h => by cases h⟩ (by simp [hcb.zero]) (Nat.zero_le _) (by dsimp only; omega) (by dsimp only; omega)]
    | some x =>
      have hlt := (List.getElem?_eq_some_iff.1 hx).1
      have hx' : (joinS a b)[c.at']? = some x := by rw [joinS_left hlt]; exact hx
      cases hs : stepS vs i0 i1 i2 i3 x c with
      | error e =>
        rw [trace_err hx hs, trace_err hx' hs]
        exact ⟨fun _ _ => rfl, fun s h => by cases h⟩
      | ok c' =>
        rw [trace_ok hx hs, trace_ok hx' hs]
        obtain ⟨a1, a2, a3, a4⟩ := stepS_cert hca hx h1 h2 hi hs
        exact trace_left hca hcb hi hn fa f c' (n + 1) a1 a2 a4 (by omega) (by omega)
end
/-- Code with another handler. -/
def setHand (c : Cod) (ev : Int) (l : List Ins) : Cod := if ev = 0 then { c with c0 := l } else if ev = 1 then { c with c1 := l } else if ev = 2 then { c with c2 := l } else if ev = 3 then { c with c3 := l } else { c with c4 := l }
theorem hand_set {c : Cod} {ev : Int} {l : List Ins} : hand (setHand c ev l) ev = l := by
  unfold hand setHand
  by_cases h0 : ev = 0
  · simp [h0]
  by_cases h1 : ev = 1
  · simp [h1]
  by_cases h2 : ev = 2
  · simp [h2]
  by_cases h3 : ev = 3
  · simp [h3]
  · simp [h0, h1, h2, h3]
theorem verC_set {c : Cod} {ev vars : Int} {l : List Ins} (h : verC c vars = true) (hl : verH l vars = true) : verC (setHand c ev l) vars = true := by
  unfold verC at h ⊢
  simp only [Bool.and_eq_true, decide_eq_true_eq] at h
  obtain ⟨h', h0, h1, h2, h3, h4⟩ := h
  unfold setHand
  repeat' split
  all_goals simp only [Bool.and_eq_true, decide_eq_true_eq]
  all_goals exact ⟨h', by assumption, by assumption, by assumption, by assumption, by assumption⟩
def c0Cod : Cod := ⟨[], [], [], [], []⟩
theorem verH_nil (vars : Int) : verH [] vars = true := by simp [verH, hLoop]
theorem verC_nil {vars : Int} (h : 0 ≤ vars ∧ vars ≤ 12) : verC c0Cod vars = true := by
  unfold verC c0Cod
  simp only [verH_nil, Bool.and_true, decide_eq_true_eq]
  exact h
theorem run_parts {vs : List Vr} {c d : Cod} {st : List Int} {x : Cal} (h : fitsS vs c st x = true) (hd : verC d vs.length = true) (hl : (hand c x.ev).length + (hand d x.ev).length ≤ 4000) :
    fitsS vs (setHand c x.ev (joinS (hand c x.ev) (hand d x.ev))) st x = true ∧
      (∀ e, (runS vs c st x).1 = .error e → runS vs (setHand c x.ev (joinS (hand c x.ev) (hand d x.ev))) st x = runS vs c st x) ∧
      (∀ s, (runS vs c st x).1 = .ok s → fitsS vs d s x = true ∧ runS vs (setHand c x.ev (joinS (hand c x.ev) (hand d x.ev))) st x = ((runS vs d s x).1, (runS vs c st x).2 + (runS vs d s x).2)) := by
  obtain ⟨f1, f2, f3⟩ := fits_all h
  obtain ⟨e1, e2⟩ := call_ev f3
  have va := hand_ver f1 e1 e2
  have vb := hand_ver hd e1 e2
  obtain ⟨hta, hca⟩ := verH_cert va
  obtain ⟨htb, hcb⟩ := verH_cert vb
  have hn : ∀ y ∈ hand d x.ev, y.op = 12 ∨ y.op = 13 → 0 ≤ y.n := by
    intro y hy ho
    obtain ⟨i, hi⟩ := List.getElem?_of_mem hy
    have := insOk_jump (hcb.at' _ _ hi).ok ho
    omega
  have ⟨t1, t2⟩ := trace_left hca hcb (call_in f3) hn ((hand c x.ev).length + 1) ((joinS (hand c x.ev) (hand d x.ev)).length + 1) ⟨st, [], 0⟩ 0 ⟨stOk_len f2, stOk_isV f2, fun _ h => by cases h⟩ (by simp [hca.zero]) (Nat.zero_le _) (by simp) (by rw [joinS_len]; simp)
  refine ⟨?_, fun e he => ?_, fun s hs => ⟨?_, ?_⟩⟩
  · simp only [fitsS, verC_set f1 (verH_join va vb hl), f2, f3, Bool.and_self]
  · unfold runS at he ⊢
    rw [hand_set]
    exact t1 e he
  · simp only [fitsS, hd, ((run_states h).1 s hs).1, f3, Bool.and_self]
  · unfold runS at hs ⊢
    rw [hand_set]
    exact t2 s hs
theorem run_alone {vs : List Vr} {c : Cod} {st : List Int} {x : Cal} (h : fitsS vs c st x = true) :
    fitsS vs (setHand c0Cod x.ev (hand c x.ev)) st x = true ∧ runS vs (setHand c0Cod x.ev (hand c x.ev)) st x = runS vs c st x := by
  obtain ⟨f1, f2, f3⟩ := fits_all h
  obtain ⟨e1, e2⟩ := call_ev f3
  refine ⟨?_, ?_⟩
  · simp only [fitsS, verC_set (verC_nil (verC_vars f1)) (hand_ver f1 e1 e2), f2, f3, Bool.and_self]
  · unfold runS; rw [hand_set]
end Go.Proofs.Ytiifbdkedainnaa.AL

/- Plain laws: the code of programs. -/
set_option linter.unusedVariables false
namespace Go.Proofs.Ytiifbdkedainnaa.AL
mutual
def codeE : Ex → List Ins
  | .mk op n _ kids => match kids with
    | [] => [⟨op, n, 0⟩]
    | k :: ks => codeEs (k :: ks) ++ [⟨op, 0, 0⟩]
def codeEs : List Ex → List Ins
  | [] => []
  | e :: es => codeE e ++ codeEs es
end
mutual
/-- The code of statements whose first instruction has an index. -/
def codeS : St → Nat → List Ins
  | .mk kind var rel a b t e, at' =>
    if kind = 1 then codeE a ++ [⟨11, var, 0⟩] else
    match e with
    | [] => codeE a ++ codeE b ++ [⟨12, ((at' + (codeE a).length + (codeE b).length + 1 + (codeSs t (at' + (codeE a).length + (codeE b).length + 1)).length : Nat) : Int), rel⟩] ++ codeSs t (at' + (codeE a).length + (codeE b).length + 1)
    | s :: ss =>
      codeE a ++ codeE b ++ [⟨12, ((at' + (codeE a).length + (codeE b).length + 1 + (codeSs t (at' + (codeE a).length + (codeE b).length + 1)).length + 1 : Nat) : Int), rel⟩] ++ codeSs t (at' + (codeE a).length + (codeE b).length + 1) ++
        [⟨13, ((at' + (codeE a).length + (codeE b).length + 1 + (codeSs t (at' + (codeE a).length + (codeE b).length + 1)).length + 1 + (codeSs (s :: ss) (at' + (codeE a).length + (codeE b).length + 1 + (codeSs t (at' + (codeE a).length + (codeE b).length + 1)).length + 1)).length : Nat) : Int), 0⟩] ++
        codeSs (s :: ss) (at' + (codeE a).length + (codeE b).length + 1 + (codeSs t (at' + (codeE a).length + (codeE b).length + 1)).length + 1)
def codeSs : List St → Nat → List Ins
  | [], _ => []
  | s :: ss, at' => codeS s at' ++ codeSs ss (at' + (codeS s at').length)
end
end Go.Proofs.Ytiifbdkedainnaa.AL

/- Plain laws: the code of a valid program is valid: pieces of code, and the heights of the stack in them. -/
set_option linter.unusedVariables false
namespace Go.Proofs.Ytiifbdkedainnaa.AL
/-- A piece of code behind so many instructions: it comes from one height to another. -/
structure SegAt (len vars : Int) (off n : Nat) (ht : Nat → Int) (x : Ins) (i : Nat) : Prop where
  ok : insOk x (off + i : Nat) len vars = true
  tk : takes x.op ≤ ht i
  pt : ht i - takes x.op + puts x.op ≤ 64
  nxt : x.op ≠ 13 → ht (i + 1) = ht i - takes x.op + puts x.op
  jmp : x.op = 12 ∨ x.op = 13 → ∃ j, j ≤ n ∧ x.n = (off + j : Nat) ∧ ht j = ht i - takes x.op + puts x.op
def Seg (len vars : Int) (off : Nat) (c : List Ins) (h0 h1 : Int) : Prop :=
  ∃ ht : Nat → Int, ht 0 = h0 ∧ ht c.length = h1 ∧ (∀ i x, c[i]? = some x → SegAt len vars off c.length ht x i) ∧
    ∀ i, i ≤ c.length → i = 0 ∨ ∃ k x, k < i ∧ c[k]? = some x ∧ leads x (off + k) (off + i)
section
variable {len vars : Int}
theorem Seg.nil {off : Nat} {h : Int} : Seg len vars off [] h h :=
  ⟨fun _ => h, rfl, rfl, by simp, fun i hi => .inl (by simpa using hi)⟩
theorem Seg.app {off : Nat} {a b : List Ins} {h0 h1 h2 : Int} (A : Seg len vars off a h0 h1) (B : Seg len vars (off + a.length) b h1 h2) : Seg len vars off (a ++ b) h0 h2 := by
  obtain ⟨f, f0, f1, fc, fr⟩ := A
  obtain ⟨g, g0, g1, gc, gr⟩ := B
  refine ⟨fun j => if j ≤ a.length then f j else g (j - a.length), by simp [f0], ?_, ?_, ?_⟩
  · simp only [List.length_append]
    split
    · have : b.length = 0 := by omega
      rw [this, Nat.add_zero, f1, ← g0, ← g1, this]
    · rw [Nat.add_sub_cancel_left, g1]
  · intro i x hx
    rcases Nat.lt_or_ge i a.length with hlt | hge
    · rw [List.getElem?_append_left hlt] at hx
      obtain ⟨c1, c2, c3, c4, c5⟩ := fc i x hx
      refine ⟨c1, ?_, ?_, fun h => ?_, fun h => ?_⟩
      · simp only [if_pos (Nat.le_of_lt hlt)]; exact c2
      · simp only [if_pos (Nat.le_of_lt hlt)]; exact c3
      · simp only [if_pos (Nat.le_of_lt hlt), if_pos (show i + 1 ≤ a.length from hlt)]; exact c4 h
      · obtain ⟨j, j1, j2, j3⟩ := c5 h
        refine ⟨j, by rw [List.length_append]; omega, j2, ?_⟩
        simp only [if_pos (Nat.le_of_lt hlt), if_pos j1]; exact j3
    · obtain ⟨k, rfl⟩ : ∃ k, i = a.length + k := ⟨i - a.length, by omega⟩
      rw [List.getElem?_append_right (by omega), Nat.add_sub_cancel_left] at hx
      obtain ⟨c1, c2, c3, c4, c5⟩ := gc k x hx
      have e0 : (if a.length + k ≤ a.length then f (a.length + k) else g (a.length + k - a.length)) = g k := by
        split
        · have : k = 0 := by omega
          subst this; rw [Nat.add_zero, f1, g0]
        · rw [Nat.add_sub_cancel_left]
      have ej : ∀ j, (if a.length + j ≤ a.length then f (a.length + j) else g (a.length + j - a.length)) = g j := by
        intro j
        split
        · have : j = 0 := by omega
          subst this; rw [Nat.add_zero, f1, g0]
        · rw [Nat.add_sub_cancel_left]
      refine ⟨by rw [← Nat.add_assoc]; exact c1, ?_, ?_, fun h => ?_, fun h => ?_⟩
      · rw [e0]; exact c2
      · rw [e0]; exact c3
      · rw [e0, Nat.add_assoc, ej]; exact c4 h
      · obtain ⟨j, j1, j2, j3⟩ := c5 h
        refine ⟨a.length + j, by rw [List.length_append]; omega, by rw [j2]; congr 1; omega, ?_⟩
        rw [e0, ej]; exact j3
  · intro i hi
    rw [List.length_append] at hi
    have left : i ≤ a.length → i = 0 ∨ ∃ k x, k < i ∧ (a ++ b)[k]? = some x ∧ leads x (off + k) (off + i) := by
      intro hle
      rcases fr i hle with h | ⟨k, x, q1, q2, q3⟩
      · exact .inl h
      · exact .inr ⟨k, x, q1, by rw [List.getElem?_append_left (by omega)]; exact q2, q3⟩
    rcases Nat.lt_or_ge a.length i with hlt | hge
    · obtain ⟨k, rfl⟩ : ∃ k, i = a.length + k := ⟨i - a.length, by omega⟩
      rcases gr k (by omega) with h | ⟨m, x, q1, q2, q3⟩
      · omega
      · exact .inr ⟨a.length + m, x, by omega, by rw [List.getElem?_append_right (by omega), Nat.add_sub_cancel_left]; exact q2, by rw [← Nat.add_assoc, ← Nat.add_assoc]; exact q3⟩
    · exact left hge
/-- One instruction that goes on. -/
theorem Seg.one {off : Nat} {x : Ins} {h : Int} (ok : insOk x off len vars = true) (n12 : x.op ≠ 12) (n13 : x.op ≠ 13) (tk : takes x.op ≤ h) (pt : h - takes x.op + puts x.op ≤ 64) :
    Seg len vars off [x] h (h - takes x.op + puts x.op) := by
  refine ⟨fun j => if j = 0 then h else h - takes x.op + puts x.op, rfl, rfl, ?_, ?_⟩
  · intro i y hy
    have : i = 0 := by have := (List.getElem?_eq_some_iff.1 hy).1; simp at this; omega
    subst this
    simp only [List.getElem?_cons_zero, Option.some.injEq] at hy
    subst hy
    exact ⟨ok, tk, pt, fun _ => rfl, fun hh => by rcases hh with hh | hh <;> contradiction⟩
  · intro i hi
    simp only [List.length_cons, List.length_nil] at hi
    by_cases h0 : i = 0
    · exact .inl h0
    · have : i = 1 := by omega
      subst this
      exact .inr ⟨0, x, by omega, rfl, .inl ⟨n13, rfl⟩⟩
/-- A test, and what is done if it holds. -/
theorem Seg.cond {off : Nat} {T : List Ins} {rel h : Int} (hr : 1 ≤ rel ∧ rel ≤ 6) (hl : ((off + 1 + T.length : Nat) : Int) ≤ len) (hh : 0 ≤ h ∧ h ≤ 64) (S : Seg len vars (off + 1) T h h) :
    Seg len vars off (⟨12, ((off + 1 + T.length : Nat) : Int), rel⟩ :: T) (h + 2) h := by
  obtain ⟨g, g0, g1, gc, gr⟩ := S
  refine ⟨fun j => match j with | 0 => h + 2 | j + 1 => g j, rfl, by simpa using g1, ?_, ?_⟩
  · intro i x hx
    cases i with
    | zero =>
      simp only [List.getElem?_cons_zero, Option.some.injEq] at hx
      subst hx
      refine ⟨?_, by simp [takes]; omega, by simp [takes, puts]; omega, fun _ => ?_, fun _ => ⟨T.length + 1, by simp, ?_, ?_⟩⟩
      · unfold insOk; simp; omega
      · simp only [takes, puts]; simp [g0]
      · simp; omega
      · simp only [takes, puts]; simp [g1]
    | succ i =>
      simp only [List.getElem?_cons_succ] at hx
      obtain ⟨c1, c2, c3, c4, c5⟩ := gc i x hx
      refine ⟨by rw [show off + (i + 1) = off + 1 + i by omega]; exact c1, c2, c3, c4, fun hj => ?_⟩
      obtain ⟨j, j1, j2, j3⟩ := c5 hj
      exact ⟨j + 1, by simp; omega, by rw [j2]; congr 1; omega, j3⟩
  · intro i hi
    cases i with
    | zero => exact .inl rfl
    | succ i =>
      simp only [List.length_cons] at hi
      rcases gr i (by omega) with h | ⟨k, x, q1, q2, q3⟩
      · subst h
        exact .inr ⟨0, _, by omega, rfl, .inl ⟨by simp, by omega⟩⟩
      · exact .inr ⟨k + 1, x, by omega, by simpa using q2, by rw [show off + (k + 1) = off + 1 + k by omega, show off + (i + 1) = off + 1 + i by omega]; exact q3⟩
end
end Go.Proofs.Ytiifbdkedainnaa.AL

/- Plain laws: the code of statements is valid. -/
set_option linter.unusedVariables false
namespace Go.Proofs.Ytiifbdkedainnaa.AL
section
variable {len vars : Int}
/-- A test, what is done if it holds, and what is done otherwise. -/
theorem Seg.both {off : Nat} {T E : List Ins} {rel h : Int} (hr : 1 ≤ rel ∧ rel ≤ 6) (hl : ((off + 1 + T.length + 1 + E.length : Nat) : Int) ≤ len) (hE : E ≠ []) (hh : 0 ≤ h ∧ h ≤ 64)
    (ST : Seg len vars (off + 1) T h h) (SE : Seg len vars (off + 1 + T.length + 1) E h h) :
    Seg len vars off (⟨12, ((off + 1 + T.length + 1 : Nat) : Int), rel⟩ :: (T ++ ⟨13, ((off + 1 + T.length + 1 + E.length : Nat) : Int), 0⟩ :: E)) (h + 2) h := by
  obtain ⟨f, f0, f1, fc, fr⟩ := ST
  obtain ⟨g, g0, g1, gc, gr⟩ := SE
  have hEl : 0 < E.length := List.length_pos_iff.2 hE
  have gT : ∀ i, i < T.length → (⟨12, ((off + 1 + T.length + 1 : Nat) : Int), rel⟩ :: (T ++ ⟨13, ((off + 1 + T.length + 1 + E.length : Nat) : Int), 0⟩ :: E) : List Ins)[1 + i]? = T[i]? := by
    intro i hi
    rw [Nat.add_comm 1 i, List.getElem?_cons_succ, List.getElem?_append_left hi]
  have gJ : (⟨12, ((off + 1 + T.length + 1 : Nat) : Int), rel⟩ :: (T ++ ⟨13, ((off + 1 + T.length + 1 + E.length : Nat) : Int), 0⟩ :: E) : List Ins)[1 + T.length]? = some ⟨13, ((off + 1 + T.length + 1 + E.length : Nat) : Int), 0⟩ := by
    rw [Nat.add_comm 1 T.length, List.getElem?_cons_succ, List.getElem?_append_right (Nat.le_refl _), Nat.sub_self]; rfl
  have gE : ∀ i, (⟨12, ((off + 1 + T.length + 1 : Nat) : Int), rel⟩ :: (T ++ ⟨13, ((off + 1 + T.length + 1 + E.length : Nat) : Int), 0⟩ :: E) : List Ins)[1 + T.length + 1 + i]? = E[i]? := by
    intro i
    rw [show 1 + T.length + 1 + i = (T.length + (1 + i)) + 1 by omega, List.getElem?_cons_succ, List.getElem?_append_right (by omega), Nat.add_sub_cancel_left, Nat.add_comm 1 i, List.getElem?_cons_succ]
  have tot : (⟨12, ((off + 1 + T.length + 1 : Nat) : Int), rel⟩ :: (T ++ ⟨13, ((off + 1 + T.length + 1 + E.length : Nat) : Int), 0⟩ :: E) : List Ins).length = 1 + T.length + 1 + E.length := by
    simp only [List.length_cons, List.length_append]; omega
  have split3 : ∀ i, i < 1 + T.length + 1 + E.length → i = 0 ∨ (∃ j, j < T.length ∧ i = 1 + j) ∨ i = 1 + T.length ∨ ∃ j, j < E.length ∧ i = 1 + T.length + 1 + j := by
    intro i hi
    by_cases h0 : i = 0
    · exact .inl h0
    by_cases h1 : i < 1 + T.length
    · exact .inr (.inl ⟨i - 1, by omega, by omega⟩)
    by_cases h2 : i = 1 + T.length
    · exact .inr (.inr (.inl h2))
    · exact .inr (.inr (.inr ⟨i - (1 + T.length + 1), by omega, by omega⟩))
  -- the heights
  let H : Nat → Int := fun j => if j = 0 then h + 2 else if j ≤ 1 + T.length then f (j - 1) else g (j - (1 + T.length + 1))
  have H0 : H 0 = h + 2 := rfl
  have HT : ∀ j, j ≤ T.length → H (1 + j) = f j := by
    intro j hj
    simp only [H, if_neg (show ¬ 1 + j = 0 by omega), if_pos (show 1 + j ≤ 1 + T.length by omega), Nat.add_sub_cancel_left]
  have HE : ∀ j, H (1 + T.length + 1 + j) = g j := by
    intro j
    simp only [H, if_neg (show ¬ 1 + T.length + 1 + j = 0 by omega), if_neg (show ¬ 1 + T.length + 1 + j ≤ 1 + T.length by omega), Nat.add_sub_cancel_left]
  refine ⟨H, H0, by rw [tot, HE, g1], ?_, ?_⟩
  · intro i x hx
    have hi := (List.getElem?_eq_some_iff.1 hx).1
    rw [tot] at hi
    rcases split3 i hi with rfl | ⟨j, hj, rfl⟩ | rfl | ⟨j, hj, rfl⟩
    · simp only [List.getElem?_cons_zero, Option.some.injEq] at hx
      subst hx
      refine ⟨?_, by rw [H0]; simp [takes]; omega, by rw [H0]; simp [takes, puts]; omega, fun _ => ?_, fun _ => ⟨1 + T.length + 1, by rw [tot]; omega, ?_, ?_⟩⟩
      · unfold insOk; simp; omega
      · rw [H0, show (0 + 1 : Nat) = 1 + 0 from rfl, HT 0 (Nat.zero_le _), f0]; simp [takes, puts]
      · dsimp only; omega
      · rw [H0, show 1 + T.length + 1 = 1 + T.length + 1 + 0 from rfl, HE 0, g0]; simp [takes, puts]
    · rw [gT j hj] at hx
      obtain ⟨c1, c2, c3, c4, c5⟩ := fc j x hx
      refine ⟨by rw [show off + (1 + j) = off + 1 + j by omega]; exact c1, by rw [HT j (by omega)]; exact c2, by rw [HT j (by omega)]; exact c3, fun hn => ?_, fun hn => ?_⟩
      · rw [HT j (by omega), Nat.add_assoc, HT (j + 1) (by omega)]; exact c4 hn
      · obtain ⟨k, k1, k2, k3⟩ := c5 hn
        exact ⟨1 + k, by rw [tot]; omega, by rw [k2]; congr 1; omega, by rw [HT j (by omega), HT k k1]; exact k3⟩
    · rw [gJ] at hx
      simp only [Option.some.injEq] at hx
      subst hx
      refine ⟨?_, by rw [HT _ (Nat.le_refl _), f1]; simp [takes]; omega, by rw [HT _ (Nat.le_refl _), f1]; simp [takes, puts]; omega, fun hn => absurd rfl hn, fun _ => ⟨1 + T.length + 1 + E.length, by rw [tot]; omega, ?_, ?_⟩⟩
      · unfold insOk; simp; omega
      · dsimp only; omega
      · rw [HE, g1, HT _ (Nat.le_refl _), f1]; simp [takes, puts]
    · rw [gE j] at hx
      obtain ⟨c1, c2, c3, c4, c5⟩ := gc j x hx
      refine ⟨by rw [show off + (1 + T.length + 1 + j) = off + 1 + T.length + 1 + j by omega]; exact c1, by rw [HE]; exact c2, by rw [HE]; exact c3, fun hn => ?_, fun hn => ?_⟩
      · rw [HE, Nat.add_assoc (1 + T.length + 1), HE]; exact c4 hn
      · obtain ⟨k, k1, k2, k3⟩ := c5 hn
        exact ⟨1 + T.length + 1 + k, by rw [tot]; omega, by rw [k2]; congr 1; omega, by rw [HE, HE]; exact k3⟩
  · intro i hi
    rw [tot] at hi
    by_cases h0 : i = 0
    · exact .inl h0
    by_cases h1 : i ≤ 1 + T.length
    · obtain ⟨j, rfl⟩ : ∃ j, i = 1 + j := ⟨i - 1, by omega⟩
      rcases fr j (by omega) with h | ⟨k, x, q1, q2, q3⟩
      · subst h
        exact .inr ⟨0, _, by omega, rfl, .inl ⟨by simp, by omega⟩⟩
      · exact .inr ⟨1 + k, x, by omega, by rw [gT k (by omega)]; exact q2, by rw [show off + (1 + k) = off + 1 + k by omega, show off + (1 + j) = off + 1 + j by omega]; exact q3⟩
    · obtain ⟨j, rfl⟩ : ∃ j, i = 1 + T.length + 1 + j := ⟨i - (1 + T.length + 1), by omega⟩
      rcases gr j (by omega) with h | ⟨k, x, q1, q2, q3⟩
      · subst h
        exact .inr ⟨0, _, by omega, rfl, .inr ⟨.inl rfl, by simp; omega⟩⟩
      · exact .inr ⟨1 + T.length + 1 + k, x, by omega, by rw [gE]; exact q2, by rw [show off + (1 + T.length + 1 + k) = off + 1 + T.length + 1 + k by omega, show off + (1 + T.length + 1 + j) = off + 1 + T.length + 1 + j by omega]; exact q3⟩
/-- A whole handler. -/
theorem Seg.ver {c : List Ins} {vars : Int} (S : Seg c.length vars 0 c 0 0) (hl : c.length ≤ 4000) : verH c vars = true := by
  obtain ⟨f, f0, f1, fc, fr⟩ := S
  rw [verH_iff]
  refine ⟨f, ⟨hl, f0, fun i x hx => ?_, f1⟩, fun i hi => ?_⟩
  · obtain ⟨c1, c2, c3, c4, c5⟩ := fc i x hx
    refine ⟨by rw [Nat.zero_add] at c1; exact c1, c2, c3, c4, fun hj => ?_⟩
    obtain ⟨j, j1, j2, j3⟩ := c5 hj
    rw [show x.n.toNat = j by omega]; exact j3
  · rcases fr i hi with h | ⟨k, x, q1, q2, q3⟩
    · exact .inl h
    · exact .inr ⟨k, x, q1, q2, by simpa only [Nat.zero_add] using q3⟩
end
end Go.Proofs.Ytiifbdkedainnaa.AL

/- Plain laws: what the units' check grants, and the code of checked statements. -/
set_option linter.unusedVariables false
namespace Go.Proofs.Ytiifbdkedainnaa.AL
theorem codeE_eq (e : Ex) : codeE e = match e.kids with
    | [] => [⟨e.op, e.n, 0⟩]
    | k :: ks => codeEs (k :: ks) ++ [⟨e.op, 0, 0⟩] := by
  cases e with
  | mk op n u kids => cases kids <;> simp only [codeE, Ex.kids, Ex.op, Ex.n]
theorem codeE_len (e : Ex) : (codeE e).length = nodes e := by
  induction e using Ex.ind with
  | h e ih =>
    rw [codeE_eq, nodes_eq]
    have key : ∀ l : List Ex, (∀ k ∈ l, (codeE k).length = nodes k) → (codeEs l).length = nodesL l := by
      intro l
      induction l with
      | nil => intro _; simp [codeEs, nodesL]
      | cons x xs ihl => intro h; simp only [codeEs, nodesL, List.length_append, h x (by simp), ihl (fun k hk => h k (by simp [hk]))]
    cases hk : e.kids with
    | nil => simp [nodesL]
    | cons k ks =>
      rw [hk] at ih
      simp only [List.length_append, key _ ih, List.length_cons, List.length_nil]; omega
theorem infL_len {vs : List Un} : ∀ {l : List Ex} {us : List Un}, infL vs l = .ok us → us.length = l.length
  | [], us, h => by simp only [infL, Except.ok.injEq] at h; subst h; rfl
  | e :: es, us, h => by
    simp only [infL] at h
    split at h
    · cases h
    · split at h
      · cases h
      · rename_i asx h2
        simp only [Except.ok.injEq] at h; subst h
        simp [infL_len h2]
/-- What the check of an expression grants. -/
theorem inf_grants {vs : List Un} {e : Ex} {u : Un} (h : inf vs e = .ok u) :
    (e.kids = [] ∧ ((e.op = 1 ∧ 0 ≤ e.n ∧ e.n ≤ 1000000000) ∨ (e.op = 2 ∧ 0 ≤ e.n ∧ e.n < vs.length) ∨ (e.op = 3 ∧ 0 ≤ e.n ∧ e.n ≤ 3))) ∨
      ∃ a b x y, e.kids = [a, b] ∧ 4 ≤ e.op ∧ e.op ≤ 10 ∧ inf vs a = .ok x ∧ inf vs b = .ok y := by
  rw [inf_eq] at h
  split at h
  · cases h
  · rename_i l hl
    have hlen := infL_len hl
    match hk : e.kids, l, hlen with
    | [], [], _ =>
      left
      refine ⟨rfl, ?_⟩
      simp only [node, leafS] at h
      repeat' split at h
      all_goals first | (cases h; done) | skip
      all_goals first
        | (exact .inl ⟨by assumption, by omega, by omega⟩)
        | (rename_i hv; have := (List.getElem?_eq_some_iff.1 hv).1; exact .inr (.inl ⟨by assumption, by assumption, by omega⟩))
        | (exact .inr (.inr ⟨by assumption, by omega, by omega⟩))
    | [a, b], [x, y], _ =>
      right
      simp only [node] at h
      split at h
      · rename_i ho
        rw [hk] at hl
        simp only [infL] at hl
        split at hl
        · cases hl
        · rename_i x' hx
          split at hl
          · cases hl
          · rename_i asx h2
            split at h2
            · cases h2
            · rename_i y' hy
              simp only [Except.ok.injEq] at h2 hl
              exact ⟨a, b, x', y', rfl, ho.1, ho.2, hx, hy⟩
      · cases h
    | [a], [x], _ => simp [node] at h
    | a :: b :: c :: r, x :: y :: z :: q, _ => simp [node] at h
theorem codeE_seg {vs : List Un} {len : Int} (e : Ex) : ∀ u, inf vs e = .ok u → ∀ (off : Nat) (h : Int), 0 ≤ h → h + nodes e ≤ 64 → Seg len vs.length off (codeE e) h (h + 1) := by
  induction e using Ex.ind with
  | h e ih =>
    intro u hu off h h0 hn
    have hn1 : 1 ≤ nodes e := by rw [nodes_eq]; omega
    rcases inf_grants hu with ⟨hk, ho⟩ | ⟨a, b, x, y, hk, o1, o2, ha, hb⟩
    · rw [codeE_eq, hk]
      have ok : insOk ⟨e.op, e.n, 0⟩ off len vs.length = true := by
        unfold insOk
        rcases ho with ⟨q, q1, q2⟩ | ⟨q, q1, q2⟩ | ⟨q, q1, q2⟩ <;> simp [q] <;> omega
      have tk : takes (⟨e.op, e.n, 0⟩ : Ins).op = 0 := by unfold takes; rw [if_pos (by dsimp only; omega)]
      have pt : puts (⟨e.op, e.n, 0⟩ : Ins).op = 1 := by unfold puts; rw [if_neg (by dsimp only; omega)]
      have := Seg.one (len := len) (vars := vs.length) (off := off) (h := h) ok (by dsimp only; omega) (by dsimp only; omega) (by rw [tk]; omega) (by rw [tk, pt]; omega)
      rw [tk, pt, Int.sub_zero] at this
      exact this
    · rw [codeE_eq, hk]
      have hne : nodes e = 1 + nodes a + nodes b := by rw [nodes_eq, hk]; simp only [nodesL]; omega
      have na : 1 ≤ nodes a := by rw [nodes_eq]; omega
      have A := ih a (by rw [hk]; simp) x ha off h h0 (by omega)
      have Bs := ih b (by rw [hk]; simp) y hb (off + (codeE a).length) (h + 1) (by omega) (by omega)
      have ok : insOk ⟨e.op, 0, 0⟩ (off + (codeE a ++ codeE b).length : Nat) len vs.length = true := by
        unfold insOk
        simp only []
        rw [if_neg (by omega), if_neg (by omega), if_neg (by omega), if_neg (by omega), if_neg (by omega)]
        simp; omega
      have tk : takes (⟨e.op, 0, 0⟩ : Ins).op = 2 := takes_2 (.inr ⟨by dsimp only; omega, by dsimp only; omega, by dsimp only; omega, by dsimp only; omega, by dsimp only; omega⟩)
      have pt : puts (⟨e.op, 0, 0⟩ : Ins).op = 1 := by unfold puts; rw [if_neg (by dsimp only; omega)]
      have O := Seg.one (len := len) (vars := vs.length) (off := off + (codeE a ++ codeE b).length) (h := h + 1 + 1) ok (by dsimp only; omega) (by dsimp only; omega) (by rw [tk]; omega) (by rw [tk, pt]; omega)
      rw [tk, pt, show h + 1 + 1 - 2 + 1 = h + 1 by omega] at O
      have := (A.app Bs).app O
      simpa only [codeEs, List.append_nil, List.append_assoc] using this
theorem codeS_eq (s : St) (at' : Nat) : codeS s at' = if s.kind = 1 then codeE s.a ++ [⟨11, s.var, 0⟩] else
    match s.els with
    | [] => codeE s.a ++ codeE s.b ++ [⟨12, ((at' + (codeE s.a).length + (codeE s.b).length + 1 + (codeSs s.thn (at' + (codeE s.a).length + (codeE s.b).length + 1)).length : Nat) : Int), s.rel⟩] ++ codeSs s.thn (at' + (codeE s.a).length + (codeE s.b).length + 1)
    | x :: xs =>
      codeE s.a ++ codeE s.b ++ [⟨12, ((at' + (codeE s.a).length + (codeE s.b).length + 1 + (codeSs s.thn (at' + (codeE s.a).length + (codeE s.b).length + 1)).length + 1 : Nat) : Int), s.rel⟩] ++ codeSs s.thn (at' + (codeE s.a).length + (codeE s.b).length + 1) ++
        [⟨13, ((at' + (codeE s.a).length + (codeE s.b).length + 1 + (codeSs s.thn (at' + (codeE s.a).length + (codeE s.b).length + 1)).length + 1 + (codeSs (x :: xs) (at' + (codeE s.a).length + (codeE s.b).length + 1 + (codeSs s.thn (at' + (codeE s.a).length + (codeE s.b).length + 1)).length + 1)).length : Nat) : Int), 0⟩] ++
        codeSs (x :: xs) (at' + (codeE s.a).length + (codeE s.b).length + 1 + (codeSs s.thn (at' + (codeE s.a).length + (codeE s.b).length + 1)).length + 1) := by
  cases s with
  | mk k v r a b t e => cases e <;> (rw [codeS]; rfl)
/-- What the check of a statement grants. -/
theorem stS_ok {vs : List Un} {s : St} (h : stS vs s = 0) :
    (s.kind = 1 ∧ 0 ≤ s.var ∧ s.var < vs.length ∧ ∃ u, inf vs s.a = .ok u) ∨
      (s.kind = 2 ∧ 1 ≤ s.rel ∧ s.rel ≤ 6 ∧ (∃ u, inf vs s.a = .ok u) ∧ (∃ u, inf vs s.b = .ok u) ∧ stSL vs s.thn = 0 ∧ stSL vs s.els = 0) := by
  rw [stS_eq] at h
  split at h
  · rename_i hk
    split at h
    · rename_i hv
      split at h
      · omega
      · rename_i w hw
        have hlt := (List.getElem?_eq_some_iff.1 hw).1
        split at h
        · rename_i x hx
          rcases inf_err vs _ _ hx with e | e <;> omega
        · rename_i u hu
          exact .inl ⟨hk, hv, by omega, u, hu⟩
    · omega
  · split at h
    · rename_i hk
      split at h
      · rename_i hr
        split at h
        · rename_i x hx
          rcases inf_err vs _ _ hx with e | e <;> omega
        · rename_i u hu
          split at h
          · rename_i x hx
            rcases inf_err vs _ _ hx with e | e <;> omega
          · rename_i w hw
            split at h
            · split at h
              · rename_i ht
                exact .inr ⟨hk, hr.1, hr.2, ⟨u, hu⟩, ⟨w, hw⟩, ht, h⟩
              · contradiction
            · omega
      · omega
    · omega
theorem smS_all {s : St} (h : smS s = true) : nodes s.a ≤ 60 ∧ (s.kind = 2 → nodes s.b ≤ 60 ∧ smSL s.thn = true ∧ smSL s.els = true) := by
  rw [smS_eq] at h
  simp only [Bool.and_eq_true, decide_eq_true_eq] at h
  refine ⟨h.1.1, fun hk => ?_⟩
  have h2 := h.1.2
  have h3 := h.2
  simp only [if_pos hk, decide_eq_true_eq] at h2
  unfold innerL at h3
  rw [if_pos hk, smSL_app, Bool.and_eq_true] at h3
  exact ⟨h2, h3⟩
theorem codeS_seg {vs : List Un} {len : Int} (s : St) : ∀ (off : Nat), stS vs s = 0 → smS s = true → ((off + (codeS s off).length : Nat) : Int) ≤ len → Seg len vs.length off (codeS s off) 0 0 := by
  induction s using St.ind with
  | h s ih1 ih2 =>
    intro off hs hm hl
    have lists : ∀ l : List St, (∀ k ∈ l, ∀ (off : Nat), stS vs k = 0 → smS k = true → ((off + (codeS k off).length : Nat) : Int) ≤ len → Seg len vs.length off (codeS k off) 0 0) →
        ∀ (off : Nat), stSL vs l = 0 → smSL l = true → ((off + (codeSs l off).length : Nat) : Int) ≤ len → Seg len vs.length off (codeSs l off) 0 0 := by
      intro l
      induction l with
      | nil => intro _ off _ _ _; exact Seg.nil
      | cons x xs ihl =>
        intro hx off h1 h2 h3
        simp only [stSL] at h1
        simp only [smSL, Bool.and_eq_true] at h2
        simp only [codeSs, List.length_append] at h3
        split at h1
        · rename_i hx0
          have X := hx x (by simp) off hx0 h2.1 (by omega)
          have XS := ihl (fun k hk => hx k (by simp [hk])) (off + (codeS x off).length) h1 h2.2 (by omega)
          exact X.app XS
        · contradiction
    have T := lists s.thn ih1
    have E := lists s.els ih2
    obtain ⟨m1, m2⟩ := smS_all hm
    rw [codeS_eq] at hl ⊢
    rcases stS_ok hs with ⟨hk, v0, v1, u, hu⟩ | ⟨hk, r1, r2, ⟨u, hu⟩, ⟨w, hw⟩, ht, he⟩
    · rw [if_pos hk] at hl ⊢
      have A := codeE_seg (len := len) s.a u hu off 0 (Int.le_refl _) (by omega)
      have ok : insOk ⟨11, s.var, 0⟩ (off + (codeE s.a).length : Nat) len vs.length = true := by
        unfold insOk; simp; omega
      have O := Seg.one (len := len) (vars := vs.length) (off := off + (codeE s.a).length) (h := 0 + 1) ok (by simp) (by simp) (by simp [takes]) (by simp [takes, puts])
      have := A.app O
      simpa [takes, puts] using this
    · obtain ⟨m3, m4, m5⟩ := m2 hk
      rw [if_neg (by omega)] at hl ⊢
      have A := codeE_seg (len := len) s.a u hu off 0 (Int.le_refl _) (by omega)
      have Bs := codeE_seg (len := len) s.b w hw (off + (codeE s.a).length) (0 + 1) (by omega) (by omega)
      have AB := A.app Bs
      rw [show ((0 : Int) + 1 + 1) = 0 + 2 from rfl] at AB
      generalize hq : off + (codeE s.a).length + (codeE s.b).length = q at *
      have eq : off + (codeE s.a ++ codeE s.b).length = q := by rw [List.length_append]; omega
      cases hel : s.els with
      | nil =>
        rw [hel] at hl
        simp only at hl ⊢
        have TT := T (q + 1) ht m4 (by simp only [List.length_append, List.length_cons, List.length_nil] at hl; omega)
        have C := Seg.cond (len := len) (vars := vs.length) (off := q) (rel := s.rel) (h := 0) ⟨r1, r2⟩ (by simp only [List.length_append, List.length_cons, List.length_nil] at hl; omega) (by omega) TT
        rw [← eq] at C
        have := AB.app C
        simpa only [eq, List.append_assoc, List.singleton_append, List.cons_append, List.nil_append] using this
      | cons x xs =>
        rw [hel] at hl E he m5
        simp only at hl ⊢
        have TT := T (q + 1) ht m4 (by simp only [List.length_append, List.length_cons, List.length_nil] at hl; omega)
        have EE := E (q + 1 + (codeSs s.thn (q + 1)).length + 1) he m5 (by simp only [List.length_append, List.length_cons, List.length_nil] at hl; omega)
        have hne : codeSs (x :: xs) (q + 1 + (codeSs s.thn (q + 1)).length + 1) ≠ [] := by
          intro h0
          have := congrArg List.length h0
          simp only [codeSs, List.length_append, List.length_nil] at this
          have hx : 1 ≤ (codeS x (q + 1 + (codeSs s.thn (q + 1)).length + 1)).length := by
            rw [codeS_eq]
            split
            · simp
            · split <;> simp <;> omega
          omega
        have C := Seg.both (len := len) (vars := vs.length) (off := q) (rel := s.rel) (h := 0) ⟨r1, r2⟩ (by simp only [List.length_append, List.length_cons, List.length_nil] at hl; omega) hne (by omega) TT EE
        rw [← eq] at C
        have := AB.app C
        simpa only [eq, List.append_assoc, List.singleton_append, List.cons_append, List.nil_append] using this
theorem codeSs_seg {vs : List Un} {len : Int} : ∀ (l : List St) (off : Nat), stSL vs l = 0 → smSL l = true → ((off + (codeSs l off).length : Nat) : Int) ≤ len → Seg len vs.length off (codeSs l off) 0 0
  | [], off, _, _, _ => Seg.nil
  | x :: xs, off, h1, h2, h3 => by
    simp only [stSL] at h1
    simp only [smSL, Bool.and_eq_true] at h2
    simp only [codeSs, List.length_append] at h3
    split at h1
    · rename_i hx0
      exact (codeS_seg x off hx0 h2.1 (by omega)).app (codeSs_seg xs (off + (codeS x off).length) h1 h2.2 (by omega))
    · contradiction
/-- The code of checked statements is valid, if it is not too long. -/
theorem code_ver {vs : List Un} {l : List St} (h1 : stSL vs l = 0) (h2 : smSL l = true) (h3 : (codeSs l 0).length ≤ 4000) : verH (codeSs l 0) vs.length = true :=
  Seg.ver (codeSs_seg l 0 h1 h2 (by omega)) h3
end Go.Proofs.Ytiifbdkedainnaa.AL
