/- Part 3 of the proofs of seat Ytiifbdkedainnaa: what the texts behind it lean on (abstract memory, walks of functions, plain laws). -/
import Derived.Test.YtiifbdkedainnaaM2
import Derived.Carry
import Derived.ChangeArms
import Derived.ChangeSame
import Derived.JoinedCond
import Derived.ProofKit
import Derived.OpenShut

set_option maxHeartbeats 8000000
set_option linter.unusedVariables false
set_option linter.unusedSimpArgs false
namespace Go.Proofs.Ytiifbdkedainnaa.Y
open Go.Proofs.Ytiifbdkedainnaa.AL Go.Proofs Go
attribute [local irreducible] AWP AWL AWG AWR AWE AWX AWO AWSeq AWSG AWSR AWSO AWSE AWSF GoodP OGW OGR OGE OGX PGW PGR PGE Wk AWLoop AWPD AWLD
theorem dr78_6_U13 : Drawn Try.prog 6 (regOps 6 ((Try.f78.body).getD .skip)) [13] [] [.win [0], .win [0], .win [0], .win [0], .win [0], .win [0], .win [0], .win [0], .win [0], .win [0], .win [0], .win [0], .win [0], .eff 0] 1 [] := ⟨rfl, by as_aux_lemma => kernel_rfl⟩
theorem dr78_7_U13 : Drawn Try.prog 7 (regOps 7 ((Try.f78.body).getD .skip)) [3, 13] [] [.win [0], .win [0], .win [0], .eff 0, .win [0, 1], .win [0, 1], .win [0, 1], .win [0, 1], .win [0, 1], .win [0, 1], .win [0, 1], .win [0, 1], .win [1], .eff 1] 2 [] := ⟨rfl, by as_aux_lemma => kernel_rfl⟩
theorem dr78_11_U13 : Drawn Try.prog 11 (regOps 11 ((Try.f78.body).getD .skip)) [4, 6] [] [.win [0, 1], .win [0], .win [0], .win [0], .eff 0, .win [1], .eff 1] 2 [] := ⟨rfl, by as_aux_lemma => kernel_rfl⟩

def outE (x : Int) (H : List AObj) : AOut := if x = 0 then .ret (.tup []) H else .pan (.pv (.sc (.iface 34 (.int .i64 x)))) H
theorem stmts_run (vs : List Un) (hvs : ∀ u ∈ vs, u.ok) : ∀ (N : Nat) (l : List St), totL l ≤ N → fineL l → ∀ (H0 : List AObj), ARun Try.prog 78 [chk vs, .rs 13 (l.map encS)] H0 (outE (stSL vs l) H0) := by
  intro N
  induction N with
  | zero =>
    intro l hN _ H0
    have hl : l = [] := by have := len_totL l; exact List.eq_nil_of_length_eq_zero (by omega)
    subst hl
    simp only [stSL, outE, if_true]
    (refine ARun.intro Try.func78 rfl Try.call78 Try.ntmps78 Try.results78 ?_; simp only [List.length_cons, List.length_nil, List.length_map, Nat.reduceAdd, Nat.reduceSub, List.replicate_succ, List.replicate_zero, List.cons_append, List.nil_append])
    (refine wk ?_; (repeat' first | exact True.intro | refine Lf.mk ?_ ?_); all_goals intro hP)
    refine awp_loop 1 ?_
    (have rr1 := dr78_6_U13; have rr2 := dr78_7_U13; have rr3 := dr78_11_U13; refine wk ?_; clear rr1 rr2 rr3; (repeat' first | exact True.intro | refine Lf.mk ?_ ?_); all_goals intro hP)
    (refine resX ?_; try exact True.intro)
  | succ N ihN =>
    intro l hN hF H0
    (refine ARun.intro Try.func78 rfl Try.call78 Try.ntmps78 Try.results78 ?_; simp only [List.length_cons, List.length_nil, List.length_map, Nat.reduceAdd, Nat.reduceSub, List.replicate_succ, List.replicate_zero, List.cons_append, List.nil_append])
    refine awp_len 1 rfl fun hlen => ?_
    rw [List.length_map] at hlen
    (refine wk ?_; (repeat' first | exact True.intro | refine Lf.mk ?_ ?_); all_goals intro hP)
    refine awp_loop_ind (σ := Nat) (fun s => l.length - s) (fun s => s ≤ l.length ∧ stSL vs l = stSL vs (l.drop s))
      (fun s => (chk vs :: .any :: .any :: .any :: .any :: .any :: .any :: .rs 13 (l.map encS) :: .i l.length :: .i s :: .any :: .any :: .any :: .any :: .any :: .any :: .any :: .any :: .any :: .any :: .any :: .any :: .any :: .any :: .any :: .any :: .any :: .any :: .any :: .any :: .any :: .any :: .any :: .any :: .any :: .any :: .any :: .any :: .any :: .any :: .any :: .any :: .any :: .any :: .any :: .any :: .any :: .any :: .any :: .any :: .any :: .any :: .any :: .any :: .any :: .any :: .any :: .any :: .any :: .any :: .any :: .any :: .any :: .any :: .any :: .any :: .any :: .any :: .any :: .any :: .any :: .any :: .any :: .any :: .any :: .any :: .any :: []))
      (fun s => H0) 0 ⟨Nat.zero_le _, by simp⟩ (by (refine fgtX ?_; try exact True.intro)) ?_
    rintro i ⟨h1, h4⟩
    cases hr : l.drop i with
    | nil =>
      have hlt := drop_nil hr
      rw [hr] at h4
      simp only [stSL] at h4
      rw [h4]
      simp only [outE, if_true]
      (have rr1 := dr78_6_U13; have rr2 := dr78_7_U13; have rr3 := dr78_11_U13; have ww1 := hlt; refine wk ?_; clear rr1 rr2 rr3 ww1; (repeat' first | exact True.intro | refine Lf.mk ?_ ?_); all_goals intro hP)
      (refine resX ?_; try exact True.intro)
    | cons k rest =>
      obtain ⟨hk, hlt, hd, hm⟩ := drop_cons hr
      have hfk := fineL_mem hF hm
      rw [fine_eq] at hfk
      have hmm := totL_mem hm
      rw [tot_eq] at hmm
      rw [hr] at h4
      simp only [stSL] at h4
      rw [stS_eq] at h4
      have ha := fun H0 => infer_run vs hvs k.a H0 (by omega)
      have hb0 := fun H0 => infer_run vs hvs k.b H0 (by omega)
      have ht := fun H0 => ihN k.thn (by omega) hfk.2.2.1 H0
      have he := fun H0 => ihN k.els (by omega) hfk.2.2.2 H0
      by_cases h1k : k.kind = 1
      · simp only [h1k, if_true] at h4
        by_cases hv0 : 0 ≤ k.var
        · simp only [hv0, if_true] at h4
          cases hv : vs[k.var.toNat]? with
          | none =>
            have hlv : ¬ k.var < vs.length := by rw [List.getElem?_eq_none_iff] at hv; omega
            simp only [hv] at h4
            simp only [show (1 : Int) ≠ 0 from by decide, if_false] at h4
            rw [h4]
            simp only [outE, show (1 : Int) ≠ 0 from by decide, if_false]
            repeat' (first | refine awp_seq ?_ | refine awp_block ?_ | refine awp_scope ?_ | ((first | refine awp_region_k fun Kn Kp hn hp => ?_ | show AWP _ _ (Code.region 6 _ true) _ _ _; refine awp_drawn_k (id := 6) [13] [13] [.win [0], .win [0], .win [0], .win [0], .win [0], .win [0], .win [0], .win [0], .win [0], .win [0], .win [0], .win [0], .win [0], .pan [0]] 1 rfl (by as_aux_lemma => kernel_rfl) fun Kn Kp hn hp => ?_ | show AWP _ _ (Code.region 7 _ true) _ _ _; refine awp_drawn_k (id := 7) [3, 13] [] [.win [0], .win [0], .win [0], .eff 0, .win [0, 1], .win [0, 1], .win [0, 1], .win [0, 1], .win [0, 1], .win [0, 1], .win [0, 1], .win [0, 1], .win [1], .eff 1] 2 rfl (by as_aux_lemma => kernel_rfl) fun Kn Kp hn hp => ?_ | show AWP _ _ (Code.region 11 _ true) _ _ _; refine awp_drawn_k (id := 11) [4, 6] [] [.win [0, 1], .win [0], .win [0], .win [0], .eff 0, .win [1], .eff 1] 2 rfl (by as_aux_lemma => kernel_rfl) fun Kn Kp hn hp => ?_ | refine oge_intro (by assumption) ?_ | (show AWE _ _ _ _ _ _ _ _ _; first | refine awe_intro (must_pan _ _) ?_) | (show AWSF _ _ _ _ _ _ _ _ _ _ _; first | refine awsf_intro (must_pan _ _) (fun hrun => ?_)) | (show OGE _ _ _ _ _ _ _; first | refine oge_intro (must_pan _ _) ?_) | (show AWSE _ _ _ _ _ _ _ _ _ _ _; first | refine awse_intro (must_pan _ _) (fun hrun => ?_)) | (show PGE _ _ _ _ _; first | refine pge_intro (must_pan _ _) (fun tm' => ?_))) <;> (simp only [go_sem, Nat.reduceAdd, Nat.reduceSub, Nat.reduceMul, Nat.reduceLeDiff, Nat.reduceLT, Nat.reduceEqDiff, Int.reduceToNat, Int.reduceAdd, Int.reduceMul, Int.reduceSub, Int.reduceLT, Int.reduceLE, Int.reduceEq, Int.reduceNeg, Int.reduceBEq, Int.reduceBNe, ↓reduceIte, reduceCtorEq, hlt, hk, encS_eq, h1k, hv0, hlv] <;> try simp (disch := omega) only [wrap_of])) | (refine hn _ _ ?_; clear hn hp Kn Kp) | (refine hp _ _ _ ?_; clear hn hp Kn Kp) | (refine awp_cond rfl (fun hb => ?_) (fun hb => ?_) <;> (try simp only [decide_eq_true_eq, decide_eq_false_iff_not, Bool.not_eq_true', Bool.not_eq_false', Bool.true_eq_false, Bool.false_eq_true, beq_iff_eq, bne_iff_ne, bne_eq_false_iff_eq, beq_eq_false_iff_ne, gt_iff_lt, ge_iff_le, Int.reduceEq, Int.reduceNe, Int.reduceLT, Int.reduceLE, ne_eq, not_true_eq_false, not_false_eq_true] at hb)) | ((first | refine awg_split (fun hb => ?_) (fun hb => ?_) | refine awsg_split (fun hb => ?_) (fun hb => ?_)) <;> have hb0 := hb <;> (try simp only [decide_eq_true_eq, decide_eq_false_iff_not, Bool.not_eq_true', Bool.not_eq_false', Bool.true_eq_false, Bool.false_eq_true, beq_iff_eq, bne_iff_ne, bne_eq_false_iff_eq, beq_eq_false_iff_ne, gt_iff_lt, ge_iff_le, Int.reduceEq, Int.reduceNe, Int.reduceLT, Int.reduceLE, ne_eq, not_true_eq_false, not_false_eq_true] at hb0) <;> (try simp only [beq_true, beq_false, Bool.not_eq_true', Bool.not_eq_false'] at hb) <;> (simp only [go_sem, Nat.reduceAdd, Nat.reduceSub, Nat.reduceMul, Nat.reduceLeDiff, Nat.reduceLT, Nat.reduceEqDiff, Int.reduceToNat, Int.reduceAdd, Int.reduceMul, Int.reduceSub, Int.reduceLT, Int.reduceLE, Int.reduceEq, Int.reduceNeg, Int.reduceBEq, Int.reduceBNe, ↓reduceIte, reduceCtorEq, hlt, hk, encS_eq, h1k, hv0, hlv, hb, hb0] <;> try simp (disch := omega) only [wrap_of])) | (refine And.intro ?_ ?_) | refine awp_skip ?_ | refine awp_ret ?_ | refine awp_exit ?_ | refine awp_label ?_ | refine awloop_step ?_ | fail)
            (refine panX ?_; try exact True.intro)
          | some w =>
            have hlv : k.var < vs.length := by have := (List.getElem?_eq_some_iff.1 hv).1; omega
            simp only [hv] at h4
            cases hi : inf vs k.a with
            | error x =>
              have hx := inf_err vs k.a x hi
              have hx0 : x ≠ 0 := by omega
              simp only [hi, hx0, if_false] at h4
              simp only [hi, outU] at ha
              rw [h4]
              simp only [outE, hx0, if_false]
              repeat' (first | refine awp_seq ?_ | refine awp_block ?_ | refine awp_scope ?_ | ((first | refine awp_region_k fun Kn Kp hn hp => ?_ | show AWP _ _ (Code.region 6 _ true) _ _ _; refine awp_drawn_k (id := 6) [13] [] [.win [0], .win [0], .win [0], .win [0], .win [0], .win [0], .win [0], .win [0], .win [0], .win [0], .win [0], .win [0], .win [0], .eff 0] 1 rfl (by as_aux_lemma => kernel_rfl) fun Kn Kp hn hp => ?_ | show AWP _ _ (Code.region 7 _ true) _ _ _; refine awp_drawn_k (id := 7) [3, 13] [3] [.win [0], .win [0], .win [0], .pan [0], .win [0, 1], .win [0, 1], .win [0, 1], .win [0, 1], .win [0, 1], .win [0, 1], .win [0, 1], .win [0, 1], .skip, .skip] 2 rfl (by as_aux_lemma => kernel_rfl) fun Kn Kp hn hp => ?_ | show AWP _ _ (Code.region 11 _ true) _ _ _; refine awp_drawn_k (id := 11) [4, 6] [] [.win [0, 1], .win [0], .win [0], .win [0], .eff 0, .win [1], .eff 1] 2 rfl (by as_aux_lemma => kernel_rfl) fun Kn Kp hn hp => ?_ | refine oge_intro (by assumption) ?_ | (show AWE _ _ _ _ _ _ _ _ _; first | refine awe_intro (must_run _ _) ?_ | refine awe_intro (ha _) ?_) | (show AWSF _ _ _ _ _ _ _ _ _ _ _; first | refine awsf_intro (must_run _ _) (fun hrun => ?_) | refine awsf_intro (ha _) (fun hrun => ?_)) | (show OGE _ _ _ _ _ _ _; first | refine oge_intro (must_run _ _) ?_ | refine oge_intro (ha _) ?_) | (show AWSE _ _ _ _ _ _ _ _ _ _ _; first | refine awse_intro (must_run _ _) (fun hrun => ?_) | refine awse_intro (ha _) (fun hrun => ?_)) | (show PGE _ _ _ _ _; first | refine pge_intro (must_run _ _) (fun tm' => ?_) | refine pge_intro (ha _) (fun tm' => ?_))) <;> (simp only [go_sem, Nat.reduceAdd, Nat.reduceSub, Nat.reduceMul, Nat.reduceLeDiff, Nat.reduceLT, Nat.reduceEqDiff, Int.reduceToNat, Int.reduceAdd, Int.reduceMul, Int.reduceSub, Int.reduceLT, Int.reduceLE, Int.reduceEq, Int.reduceNeg, Int.reduceBEq, Int.reduceBNe, ↓reduceIte, reduceCtorEq, hlt, hk, encS_eq, h1k, hv0, hlv, hv] <;> try simp (disch := omega) only [wrap_of])) | (refine hn _ _ ?_; clear hn hp Kn Kp) | (refine hp _ _ _ ?_; clear hn hp Kn Kp) | (refine awp_cond rfl (fun hb => ?_) (fun hb => ?_) <;> (try simp only [decide_eq_true_eq, decide_eq_false_iff_not, Bool.not_eq_true', Bool.not_eq_false', Bool.true_eq_false, Bool.false_eq_true, beq_iff_eq, bne_iff_ne, bne_eq_false_iff_eq, beq_eq_false_iff_ne, gt_iff_lt, ge_iff_le, Int.reduceEq, Int.reduceNe, Int.reduceLT, Int.reduceLE, ne_eq, not_true_eq_false, not_false_eq_true] at hb)) | ((first | refine awg_split (fun hb => ?_) (fun hb => ?_) | refine awsg_split (fun hb => ?_) (fun hb => ?_)) <;> have hb0 := hb <;> (try simp only [decide_eq_true_eq, decide_eq_false_iff_not, Bool.not_eq_true', Bool.not_eq_false', Bool.true_eq_false, Bool.false_eq_true, beq_iff_eq, bne_iff_ne, bne_eq_false_iff_eq, beq_eq_false_iff_ne, gt_iff_lt, ge_iff_le, Int.reduceEq, Int.reduceNe, Int.reduceLT, Int.reduceLE, ne_eq, not_true_eq_false, not_false_eq_true] at hb0) <;> (try simp only [beq_true, beq_false, Bool.not_eq_true', Bool.not_eq_false'] at hb) <;> (simp only [go_sem, Nat.reduceAdd, Nat.reduceSub, Nat.reduceMul, Nat.reduceLeDiff, Nat.reduceLT, Nat.reduceEqDiff, Int.reduceToNat, Int.reduceAdd, Int.reduceMul, Int.reduceSub, Int.reduceLT, Int.reduceLE, Int.reduceEq, Int.reduceNeg, Int.reduceBEq, Int.reduceBNe, ↓reduceIte, reduceCtorEq, hlt, hk, encS_eq, h1k, hv0, hlv, hv, hb, hb0] <;> try simp (disch := omega) only [wrap_of])) | (refine And.intro ?_ ?_) | refine awp_skip ?_ | refine awp_ret ?_ | refine awp_exit ?_ | refine awp_label ?_ | refine awloop_step ?_ | fail)
              (refine panX ?_; try exact True.intro)
            | ok u =>
              simp only [hi, outU] at ha
              simp only [hi] at h4
              by_cases huw : u = w
              · subst huw
                simp only [if_true] at h4
                (have rr1 := dr78_6_U13; have rr2 := dr78_7_U13; have rr3 := dr78_11_U13; have ww1 := hlt; have ww2 := hk; have ww3 := @encS_eq; have ww4 := h1k; have ww5 := hv0; have ww6 := hlv; have ww7 := hv; have ww8 := @eqg70; have cc1 := fun z1 z2 => must_run z1 z2; have cc2 := fun z1 => ha z1; refine wk ?_; clear rr1 rr2 rr3 ww1 ww2 ww3 ww4 ww5 ww6 ww7 ww8 cc1 cc2; (repeat' first | exact True.intro | refine Lf.mk ?_ ?_); all_goals intro hP)
                refine ⟨i + 1, by omega, ⟨by omega, by rw [hd]; exact h4⟩, ?_⟩
                (refine dropX ?_; try exact True.intro)
                all_goals simp [wrap_of (n := (i : Int) + 1) (by omega) (by omega)]
              · have hE := eqU u w
                rw [decide_eq_false huw] at hE
                simp only [huw, if_false, show (13 : Int) ≠ 0 from by decide] at h4
                rw [h4]
                simp only [outE, show (13 : Int) ≠ 0 from by decide, if_false]
                repeat' (first | refine awp_seq ?_ | refine awp_block ?_ | refine awp_scope ?_ | ((first | refine awp_region_k fun Kn Kp hn hp => ?_ | show AWP _ _ (Code.region 6 _ true) _ _ _; refine awp_drawn_k (id := 6) [13] [] [.win [0], .win [0], .win [0], .win [0], .win [0], .win [0], .win [0], .win [0], .win [0], .win [0], .win [0], .win [0], .win [0], .eff 0] 1 rfl (by as_aux_lemma => kernel_rfl) fun Kn Kp hn hp => ?_ | show AWP _ _ (Code.region 7 _ true) _ _ _; refine awp_drawn_k (id := 7) [3, 13] [13] [.win [0], .win [0], .win [0], .eff 0, .win [0, 1], .win [0, 1], .win [0, 1], .win [0, 1], .win [0, 1], .win [0, 1], .win [0, 1], .win [0, 1], .win [1], .pan [1]] 2 rfl (by as_aux_lemma => kernel_rfl) fun Kn Kp hn hp => ?_ | show AWP _ _ (Code.region 11 _ true) _ _ _; refine awp_drawn_k (id := 11) [4, 6] [] [.win [0, 1], .win [0], .win [0], .win [0], .eff 0, .win [1], .eff 1] 2 rfl (by as_aux_lemma => kernel_rfl) fun Kn Kp hn hp => ?_ | refine oge_intro (by assumption) ?_ | (show AWE _ _ _ _ _ _ _ _ _; first | refine awe_intro (must_run _ _) ?_ | refine awe_intro (must_pan _ _) ?_ | refine awe_intro (ha _) ?_) | (show AWSF _ _ _ _ _ _ _ _ _ _ _; first | refine awsf_intro (must_run _ _) (fun hrun => ?_) | refine awsf_intro (must_pan _ _) (fun hrun => ?_) | refine awsf_intro (ha _) (fun hrun => ?_)) | (show OGE _ _ _ _ _ _ _; first | refine oge_intro (must_run _ _) ?_ | refine oge_intro (must_pan _ _) ?_ | refine oge_intro (ha _) ?_) | (show AWSE _ _ _ _ _ _ _ _ _ _ _; first | refine awse_intro (must_run _ _) (fun hrun => ?_) | refine awse_intro (must_pan _ _) (fun hrun => ?_) | refine awse_intro (ha _) (fun hrun => ?_)) | (show PGE _ _ _ _ _; first | refine pge_intro (must_run _ _) (fun tm' => ?_) | refine pge_intro (must_pan _ _) (fun tm' => ?_) | refine pge_intro (ha _) (fun tm' => ?_))) <;> (simp only [go_sem, Nat.reduceAdd, Nat.reduceSub, Nat.reduceMul, Nat.reduceLeDiff, Nat.reduceLT, Nat.reduceEqDiff, Int.reduceToNat, Int.reduceAdd, Int.reduceMul, Int.reduceSub, Int.reduceLT, Int.reduceLE, Int.reduceEq, Int.reduceNeg, Int.reduceBEq, Int.reduceBNe, ↓reduceIte, reduceCtorEq, hlt, hk, encS_eq, h1k, hv0, hlv, hv, eqg70, hE] <;> try simp (disch := omega) only [wrap_of])) | (refine hn _ _ ?_; clear hn hp Kn Kp) | (refine hp _ _ _ ?_; clear hn hp Kn Kp) | (refine awp_cond rfl (fun hb => ?_) (fun hb => ?_) <;> (try simp only [decide_eq_true_eq, decide_eq_false_iff_not, Bool.not_eq_true', Bool.not_eq_false', Bool.true_eq_false, Bool.false_eq_true, beq_iff_eq, bne_iff_ne, bne_eq_false_iff_eq, beq_eq_false_iff_ne, gt_iff_lt, ge_iff_le, Int.reduceEq, Int.reduceNe, Int.reduceLT, Int.reduceLE, ne_eq, not_true_eq_false, not_false_eq_true] at hb)) | ((first | refine awg_split (fun hb => ?_) (fun hb => ?_) | refine awsg_split (fun hb => ?_) (fun hb => ?_)) <;> have hb0 := hb <;> (try simp only [decide_eq_true_eq, decide_eq_false_iff_not, Bool.not_eq_true', Bool.not_eq_false', Bool.true_eq_false, Bool.false_eq_true, beq_iff_eq, bne_iff_ne, bne_eq_false_iff_eq, beq_eq_false_iff_ne, gt_iff_lt, ge_iff_le, Int.reduceEq, Int.reduceNe, Int.reduceLT, Int.reduceLE, ne_eq, not_true_eq_false, not_false_eq_true] at hb0) <;> (try simp only [beq_true, beq_false, Bool.not_eq_true', Bool.not_eq_false'] at hb) <;> (simp only [go_sem, Nat.reduceAdd, Nat.reduceSub, Nat.reduceMul, Nat.reduceLeDiff, Nat.reduceLT, Nat.reduceEqDiff, Int.reduceToNat, Int.reduceAdd, Int.reduceMul, Int.reduceSub, Int.reduceLT, Int.reduceLE, Int.reduceEq, Int.reduceNeg, Int.reduceBEq, Int.reduceBNe, ↓reduceIte, reduceCtorEq, hlt, hk, encS_eq, h1k, hv0, hlv, hv, eqg70, hE, hb, hb0] <;> try simp (disch := omega) only [wrap_of])) | (refine And.intro ?_ ?_) | refine awp_skip ?_ | refine awp_ret ?_ | refine awp_exit ?_ | refine awp_label ?_ | refine awloop_step ?_ | fail)
                (refine panX ?_; try exact True.intro)
        · simp only [hv0, if_false, show (1 : Int) ≠ 0 from by decide] at h4
          rw [h4]
          simp only [outE, show (1 : Int) ≠ 0 from by decide, if_false]
          repeat' (first | refine awp_seq ?_ | refine awp_block ?_ | refine awp_scope ?_ | ((first | refine awp_region_k fun Kn Kp hn hp => ?_ | show AWP _ _ (Code.region 6 _ true) _ _ _; refine awp_drawn_k (id := 6) [13] [13] [.win [0], .win [0], .win [0], .win [0], .win [0], .win [0], .win [0], .win [0], .win [0], .win [0], .win [0], .win [0], .win [0], .pan [0]] 1 rfl (by as_aux_lemma => kernel_rfl) fun Kn Kp hn hp => ?_ | show AWP _ _ (Code.region 7 _ true) _ _ _; refine awp_drawn_k (id := 7) [3, 13] [] [.win [0], .win [0], .win [0], .eff 0, .win [0, 1], .win [0, 1], .win [0, 1], .win [0, 1], .win [0, 1], .win [0, 1], .win [0, 1], .win [0, 1], .win [1], .eff 1] 2 rfl (by as_aux_lemma => kernel_rfl) fun Kn Kp hn hp => ?_ | show AWP _ _ (Code.region 11 _ true) _ _ _; refine awp_drawn_k (id := 11) [4, 6] [] [.win [0, 1], .win [0], .win [0], .win [0], .eff 0, .win [1], .eff 1] 2 rfl (by as_aux_lemma => kernel_rfl) fun Kn Kp hn hp => ?_ | refine oge_intro (by assumption) ?_ | (show AWE _ _ _ _ _ _ _ _ _; first | refine awe_intro (must_pan _ _) ?_) | (show AWSF _ _ _ _ _ _ _ _ _ _ _; first | refine awsf_intro (must_pan _ _) (fun hrun => ?_)) | (show OGE _ _ _ _ _ _ _; first | refine oge_intro (must_pan _ _) ?_) | (show AWSE _ _ _ _ _ _ _ _ _ _ _; first | refine awse_intro (must_pan _ _) (fun hrun => ?_)) | (show PGE _ _ _ _ _; first | refine pge_intro (must_pan _ _) (fun tm' => ?_))) <;> (simp only [go_sem, Nat.reduceAdd, Nat.reduceSub, Nat.reduceMul, Nat.reduceLeDiff, Nat.reduceLT, Nat.reduceEqDiff, Int.reduceToNat, Int.reduceAdd, Int.reduceMul, Int.reduceSub, Int.reduceLT, Int.reduceLE, Int.reduceEq, Int.reduceNeg, Int.reduceBEq, Int.reduceBNe, ↓reduceIte, reduceCtorEq, hlt, hk, encS_eq, h1k, hv0] <;> try simp (disch := omega) only [wrap_of])) | (refine hn _ _ ?_; clear hn hp Kn Kp) | (refine hp _ _ _ ?_; clear hn hp Kn Kp) | (refine awp_cond rfl (fun hb => ?_) (fun hb => ?_) <;> (try simp only [decide_eq_true_eq, decide_eq_false_iff_not, Bool.not_eq_true', Bool.not_eq_false', Bool.true_eq_false, Bool.false_eq_true, beq_iff_eq, bne_iff_ne, bne_eq_false_iff_eq, beq_eq_false_iff_ne, gt_iff_lt, ge_iff_le, Int.reduceEq, Int.reduceNe, Int.reduceLT, Int.reduceLE, ne_eq, not_true_eq_false, not_false_eq_true] at hb)) | ((first | refine awg_split (fun hb => ?_) (fun hb => ?_) | refine awsg_split (fun hb => ?_) (fun hb => ?_)) <;> have hb0 := hb <;> (try simp only [decide_eq_true_eq, decide_eq_false_iff_not, Bool.not_eq_true', Bool.not_eq_false', Bool.true_eq_false, Bool.false_eq_true, beq_iff_eq, bne_iff_ne, bne_eq_false_iff_eq, beq_eq_false_iff_ne, gt_iff_lt, ge_iff_le, Int.reduceEq, Int.reduceNe, Int.reduceLT, Int.reduceLE, ne_eq, not_true_eq_false, not_false_eq_true] at hb0) <;> (try simp only [beq_true, beq_false, Bool.not_eq_true', Bool.not_eq_false'] at hb) <;> (simp only [go_sem, Nat.reduceAdd, Nat.reduceSub, Nat.reduceMul, Nat.reduceLeDiff, Nat.reduceLT, Nat.reduceEqDiff, Int.reduceToNat, Int.reduceAdd, Int.reduceMul, Int.reduceSub, Int.reduceLT, Int.reduceLE, Int.reduceEq, Int.reduceNeg, Int.reduceBEq, Int.reduceBNe, ↓reduceIte, reduceCtorEq, hlt, hk, encS_eq, h1k, hv0, hb, hb0] <;> try simp (disch := omega) only [wrap_of])) | (refine And.intro ?_ ?_) | refine awp_skip ?_ | refine awp_ret ?_ | refine awp_exit ?_ | refine awp_label ?_ | refine awloop_step ?_ | fail)
          (refine panX ?_; try exact True.intro)
      · have h1k' : (k.kind == 1) = false := by simpa using h1k
        simp only [h1k, if_false] at h4
        by_cases h2k : k.kind = 2
        · simp only [h2k, if_true] at h4
          by_cases hr16 : 1 ≤ k.rel ∧ k.rel ≤ 6
          · obtain ⟨hr1, hr6⟩ := hr16
            simp only [hr1, hr6, and_self, if_true] at h4
            cases hi : inf vs k.a with
            | error x =>
              have hx := inf_err vs k.a x hi
              have hx0 : x ≠ 0 := by omega
              simp only [hi, hx0, if_false] at h4
              simp only [hi, outU] at ha
              rw [h4]
              simp only [outE, hx0, if_false]
              (have rr1 := dr78_6_U13; have rr2 := dr78_7_U13; have rr3 := dr78_11_U13; have ww1 := hlt; have ww2 := hk; have ww3 := @encS_eq; have ww4 := h2k; have ww5 := hr1; have ww6 := hr6; have cc1 := fun z1 z2 => must_run z1 z2; have cc2 := fun z1 => ha z1; refine wk ?_; clear rr1 rr2 rr3 ww1 ww2 ww3 ww4 ww5 ww6 cc1 cc2; (repeat' first | exact True.intro | refine Lf.mk ?_ ?_); all_goals intro hP)
              (refine panX ?_; try exact True.intro)
            | ok u =>
              simp only [hi, outU] at ha
              simp only [hi] at h4
              cases hj : inf vs k.b with
              | error x =>
                have hx := inf_err vs k.b x hj
                have hx0 : x ≠ 0 := by omega
                simp only [hj, hx0, if_false] at h4
                simp only [hj, outU] at hb0
                rw [h4]
                simp only [outE, hx0, if_false]
                repeat' (first | refine awp_seq ?_ | refine awp_block ?_ | refine awp_scope ?_ | ((first | refine awp_region_k fun Kn Kp hn hp => ?_ | show AWP _ _ (Code.region 6 _ true) _ _ _; refine awp_drawn_k (id := 6) [13] [] [.win [0], .win [0], .win [0], .win [0], .win [0], .win [0], .win [0], .win [0], .win [0], .win [0], .win [0], .win [0], .win [0], .eff 0] 1 rfl (by as_aux_lemma => kernel_rfl) fun Kn Kp hn hp => ?_ | show AWP _ _ (Code.region 7 _ true) _ _ _; refine awp_drawn_k (id := 7) [3, 13] [] [.win [0], .win [0], .win [0], .eff 0, .win [0, 1], .win [0, 1], .win [0, 1], .win [0, 1], .win [0, 1], .win [0, 1], .win [0, 1], .win [0, 1], .win [1], .eff 1] 2 rfl (by as_aux_lemma => kernel_rfl) fun Kn Kp hn hp => ?_ | show AWP _ _ (Code.region 11 _ true) _ _ _; refine awp_drawn_k (id := 11) [4, 6] [4] [.win [0, 1], .win [0], .win [0], .win [0], .pan [0], .skip, .skip] 2 rfl (by as_aux_lemma => kernel_rfl) fun Kn Kp hn hp => ?_ | refine oge_intro (by assumption) ?_ | (show AWE _ _ _ _ _ _ _ _ _; first | refine awe_intro (must_run _ _) ?_ | refine awe_intro (ha _) ?_ | refine awe_intro (hb0 _) ?_) | (show AWSF _ _ _ _ _ _ _ _ _ _ _; first | refine awsf_intro (must_run _ _) (fun hrun => ?_) | refine awsf_intro (ha _) (fun hrun => ?_) | refine awsf_intro (hb0 _) (fun hrun => ?_)) | (show OGE _ _ _ _ _ _ _; first | refine oge_intro (must_run _ _) ?_ | refine oge_intro (ha _) ?_ | refine oge_intro (hb0 _) ?_) | (show AWSE _ _ _ _ _ _ _ _ _ _ _; first | refine awse_intro (must_run _ _) (fun hrun => ?_) | refine awse_intro (ha _) (fun hrun => ?_) | refine awse_intro (hb0 _) (fun hrun => ?_)) | (show PGE _ _ _ _ _; first | refine pge_intro (must_run _ _) (fun tm' => ?_) | refine pge_intro (ha _) (fun tm' => ?_) | refine pge_intro (hb0 _) (fun tm' => ?_))) <;> (simp only [go_sem, Nat.reduceAdd, Nat.reduceSub, Nat.reduceMul, Nat.reduceLeDiff, Nat.reduceLT, Nat.reduceEqDiff, Int.reduceToNat, Int.reduceAdd, Int.reduceMul, Int.reduceSub, Int.reduceLT, Int.reduceLE, Int.reduceEq, Int.reduceNeg, Int.reduceBEq, Int.reduceBNe, ↓reduceIte, reduceCtorEq, hlt, hk, encS_eq, h2k, hr1, hr6] <;> try simp (disch := omega) only [wrap_of])) | (refine hn _ _ ?_; clear hn hp Kn Kp) | (refine hp _ _ _ ?_; clear hn hp Kn Kp) | (refine awp_cond rfl (fun hb => ?_) (fun hb => ?_) <;> (try simp only [decide_eq_true_eq, decide_eq_false_iff_not, Bool.not_eq_true', Bool.not_eq_false', Bool.true_eq_false, Bool.false_eq_true, beq_iff_eq, bne_iff_ne, bne_eq_false_iff_eq, beq_eq_false_iff_ne, gt_iff_lt, ge_iff_le, Int.reduceEq, Int.reduceNe, Int.reduceLT, Int.reduceLE, ne_eq, not_true_eq_false, not_false_eq_true] at hb)) | ((first | refine awg_split (fun hb => ?_) (fun hb => ?_) | refine awsg_split (fun hb => ?_) (fun hb => ?_)) <;> have hb0 := hb <;> (try simp only [decide_eq_true_eq, decide_eq_false_iff_not, Bool.not_eq_true', Bool.not_eq_false', Bool.true_eq_false, Bool.false_eq_true, beq_iff_eq, bne_iff_ne, bne_eq_false_iff_eq, beq_eq_false_iff_ne, gt_iff_lt, ge_iff_le, Int.reduceEq, Int.reduceNe, Int.reduceLT, Int.reduceLE, ne_eq, not_true_eq_false, not_false_eq_true] at hb0) <;> (try simp only [beq_true, beq_false, Bool.not_eq_true', Bool.not_eq_false'] at hb) <;> (simp only [go_sem, Nat.reduceAdd, Nat.reduceSub, Nat.reduceMul, Nat.reduceLeDiff, Nat.reduceLT, Nat.reduceEqDiff, Int.reduceToNat, Int.reduceAdd, Int.reduceMul, Int.reduceSub, Int.reduceLT, Int.reduceLE, Int.reduceEq, Int.reduceNeg, Int.reduceBEq, Int.reduceBNe, ↓reduceIte, reduceCtorEq, hlt, hk, encS_eq, h2k, hr1, hr6, hb, hb0] <;> try simp (disch := omega) only [wrap_of])) | (refine And.intro ?_ ?_) | refine awp_skip ?_ | refine awp_ret ?_ | refine awp_exit ?_ | refine awp_label ?_ | refine awloop_step ?_ | fail)
                (refine panX ?_; try exact True.intro)
              | ok w =>
                simp only [hj, outU] at hb0
                simp only [hj] at h4
                by_cases huw : u = w
                · subst huw
                  simp only [if_true] at h4
                  by_cases hT : stSL vs k.thn = 0
                  · simp only [hT, if_true] at h4
                    simp only [outE, hT, if_true] at ht
                    by_cases hE : stSL vs k.els = 0
                    · simp only [hE, if_true] at h4
                      simp only [outE, hE, if_true] at he
                      (have rr1 := dr78_6_U13; have rr2 := dr78_7_U13; have rr3 := dr78_11_U13; have ww1 := hlt; have ww2 := hk; have ww3 := @encS_eq; have ww4 := h2k; have ww5 := hr1; have ww6 := hr6; have ww7 := @eqg70; have cc1 := fun z1 z2 => must_run z1 z2; have cc2 := fun z1 => ha z1; have cc3 := fun z1 => hb0 z1; have cc4 := fun z1 => ht z1; have cc5 := fun z1 => he z1; refine wk ?_; clear rr1 rr2 rr3 ww1 ww2 ww3 ww4 ww5 ww6 ww7 cc1 cc2 cc3 cc4 cc5; (repeat' first | exact True.intro | refine Lf.mk ?_ ?_); all_goals intro hP)
                      refine ⟨i + 1, by omega, ⟨by omega, by rw [hd]; exact h4⟩, ?_⟩
                      (refine dropX ?_; try exact True.intro)
                      all_goals simp [wrap_of (n := (i : Int) + 1) (by omega) (by omega)]
                    · simp only [hE, if_false] at h4
                      simp only [outE, hE, if_false] at he
                      rw [h4]
                      simp only [outE, hE, if_false]
                      (have rr1 := dr78_6_U13; have rr2 := dr78_7_U13; have rr3 := dr78_11_U13; have ww1 := hlt; have ww2 := hk; have ww3 := @encS_eq; have ww4 := h2k; have ww5 := hr1; have ww6 := hr6; have ww7 := @eqg70; have cc1 := fun z1 z2 => must_run z1 z2; have cc2 := fun z1 => ha z1; have cc3 := fun z1 => hb0 z1; have cc4 := fun z1 => ht z1; have cc5 := fun z1 => he z1; refine wk ?_; clear rr1 rr2 rr3 ww1 ww2 ww3 ww4 ww5 ww6 ww7 cc1 cc2 cc3 cc4 cc5; (repeat' first | exact True.intro | refine Lf.mk ?_ ?_); all_goals intro hP)
                      (refine panX ?_; try exact True.intro)
                  · simp only [hT, if_false] at h4
                    simp only [outE, hT, if_false] at ht
                    rw [h4]
                    simp only [outE, hT, if_false]
                    (have rr1 := dr78_6_U13; have rr2 := dr78_7_U13; have rr3 := dr78_11_U13; have ww1 := hlt; have ww2 := hk; have ww3 := @encS_eq; have ww4 := h2k; have ww5 := hr1; have ww6 := hr6; have ww7 := @eqg70; have cc1 := fun z1 z2 => must_run z1 z2; have cc2 := fun z1 => ha z1; have cc3 := fun z1 => hb0 z1; have cc4 := fun z1 => ht z1; refine wk ?_; clear rr1 rr2 rr3 ww1 ww2 ww3 ww4 ww5 ww6 ww7 cc1 cc2 cc3 cc4; (repeat' first | exact True.intro | refine Lf.mk ?_ ?_); all_goals intro hP)
                    (refine panX ?_; try exact True.intro)
                · have hE := eqU u w
                  rw [decide_eq_false huw] at hE
                  simp only [huw, if_false, show (13 : Int) ≠ 0 from by decide] at h4
                  rw [h4]
                  simp only [outE, show (13 : Int) ≠ 0 from by decide, if_false]
                  repeat' (first | refine awp_seq ?_ | refine awp_block ?_ | refine awp_scope ?_ | ((first | refine awp_region_k fun Kn Kp hn hp => ?_ | show AWP _ _ (Code.region 6 _ true) _ _ _; refine awp_drawn_k (id := 6) [13] [] [.win [0], .win [0], .win [0], .win [0], .win [0], .win [0], .win [0], .win [0], .win [0], .win [0], .win [0], .win [0], .win [0], .eff 0] 1 rfl (by as_aux_lemma => kernel_rfl) fun Kn Kp hn hp => ?_ | show AWP _ _ (Code.region 7 _ true) _ _ _; refine awp_drawn_k (id := 7) [3, 13] [] [.win [0], .win [0], .win [0], .eff 0, .win [0, 1], .win [0, 1], .win [0, 1], .win [0, 1], .win [0, 1], .win [0, 1], .win [0, 1], .win [0, 1], .win [1], .eff 1] 2 rfl (by as_aux_lemma => kernel_rfl) fun Kn Kp hn hp => ?_ | show AWP _ _ (Code.region 11 _ true) _ _ _; refine awp_drawn_k (id := 11) [4, 6] [6] [.win [0, 1], .win [0], .win [0], .win [0], .eff 0, .win [1], .pan [1]] 2 rfl (by as_aux_lemma => kernel_rfl) fun Kn Kp hn hp => ?_ | refine oge_intro (by assumption) ?_ | (show AWE _ _ _ _ _ _ _ _ _; first | refine awe_intro (must_run _ _) ?_ | refine awe_intro (must_pan _ _) ?_ | refine awe_intro (ha _) ?_ | refine awe_intro (hb0 _) ?_) | (show AWSF _ _ _ _ _ _ _ _ _ _ _; first | refine awsf_intro (must_run _ _) (fun hrun => ?_) | refine awsf_intro (must_pan _ _) (fun hrun => ?_) | refine awsf_intro (ha _) (fun hrun => ?_) | refine awsf_intro (hb0 _) (fun hrun => ?_)) | (show OGE _ _ _ _ _ _ _; first | refine oge_intro (must_run _ _) ?_ | refine oge_intro (must_pan _ _) ?_ | refine oge_intro (ha _) ?_ | refine oge_intro (hb0 _) ?_) | (show AWSE _ _ _ _ _ _ _ _ _ _ _; first | refine awse_intro (must_run _ _) (fun hrun => ?_) | refine awse_intro (must_pan _ _) (fun hrun => ?_) | refine awse_intro (ha _) (fun hrun => ?_) | refine awse_intro (hb0 _) (fun hrun => ?_)) | (show PGE _ _ _ _ _; first | refine pge_intro (must_run _ _) (fun tm' => ?_) | refine pge_intro (must_pan _ _) (fun tm' => ?_) | refine pge_intro (ha _) (fun tm' => ?_) | refine pge_intro (hb0 _) (fun tm' => ?_))) <;> (simp only [go_sem, Nat.reduceAdd, Nat.reduceSub, Nat.reduceMul, Nat.reduceLeDiff, Nat.reduceLT, Nat.reduceEqDiff, Int.reduceToNat, Int.reduceAdd, Int.reduceMul, Int.reduceSub, Int.reduceLT, Int.reduceLE, Int.reduceEq, Int.reduceNeg, Int.reduceBEq, Int.reduceBNe, ↓reduceIte, reduceCtorEq, hlt, hk, encS_eq, h2k, hr1, hr6, eqg70, hE] <;> try simp (disch := omega) only [wrap_of])) | (refine hn _ _ ?_; clear hn hp Kn Kp) | (refine hp _ _ _ ?_; clear hn hp Kn Kp) | (refine awp_cond rfl (fun hb => ?_) (fun hb => ?_) <;> (try simp only [decide_eq_true_eq, decide_eq_false_iff_not, Bool.not_eq_true', Bool.not_eq_false', Bool.true_eq_false, Bool.false_eq_true, beq_iff_eq, bne_iff_ne, bne_eq_false_iff_eq, beq_eq_false_iff_ne, gt_iff_lt, ge_iff_le, Int.reduceEq, Int.reduceNe, Int.reduceLT, Int.reduceLE, ne_eq, not_true_eq_false, not_false_eq_true] at hb)) | ((first | refine awg_split (fun hb => ?_) (fun hb => ?_) | refine awsg_split (fun hb => ?_) (fun hb => ?_)) <;> have hb0 := hb <;> (try simp only [decide_eq_true_eq, decide_eq_false_iff_not, Bool.not_eq_true', Bool.not_eq_false', Bool.true_eq_false, Bool.false_eq_true, beq_iff_eq, bne_iff_ne, bne_eq_false_iff_eq, beq_eq_false_iff_ne, gt_iff_lt, ge_iff_le, Int.reduceEq, Int.reduceNe, Int.reduceLT, Int.reduceLE, ne_eq, not_true_eq_false, not_false_eq_true] at hb0) <;> (try simp only [beq_true, beq_false, Bool.not_eq_true', Bool.not_eq_false'] at hb) <;> (simp only [go_sem, Nat.reduceAdd, Nat.reduceSub, Nat.reduceMul, Nat.reduceLeDiff, Nat.reduceLT, Nat.reduceEqDiff, Int.reduceToNat, Int.reduceAdd, Int.reduceMul, Int.reduceSub, Int.reduceLT, Int.reduceLE, Int.reduceEq, Int.reduceNeg, Int.reduceBEq, Int.reduceBNe, ↓reduceIte, reduceCtorEq, hlt, hk, encS_eq, h2k, hr1, hr6, eqg70, hE, hb, hb0] <;> try simp (disch := omega) only [wrap_of])) | (refine And.intro ?_ ?_) | refine awp_skip ?_ | refine awp_ret ?_ | refine awp_exit ?_ | refine awp_label ?_ | refine awloop_step ?_ | fail)
                  (refine panX ?_; try exact True.intro)
          · simp only [hr16, if_false, show (1 : Int) ≠ 0 from by decide] at h4
            rw [h4]
            simp only [outE, show (1 : Int) ≠ 0 from by decide, if_false]
            repeat' (first | refine awp_seq ?_ | refine awp_block ?_ | refine awp_scope ?_ | ((first | refine awp_region_k fun Kn Kp hn hp => ?_ | show AWP _ _ (Code.region 6 _ true) _ _ _; refine awp_drawn_k (id := 6) [13] [] [.win [0], .win [0], .win [0], .win [0], .win [0], .win [0], .win [0], .win [0], .win [0], .win [0], .win [0], .win [0], .win [0], .eff 0] 1 rfl (by as_aux_lemma => kernel_rfl) fun Kn Kp hn hp => ?_ | show AWP _ _ (Code.region 7 _ true) _ _ _; refine awp_drawn_k (id := 7) [3, 13] [] [.win [0], .win [0], .win [0], .eff 0, .win [0, 1], .win [0, 1], .win [0, 1], .win [0, 1], .win [0, 1], .win [0, 1], .win [0, 1], .win [0, 1], .win [1], .eff 1] 2 rfl (by as_aux_lemma => kernel_rfl) fun Kn Kp hn hp => ?_ | show AWP _ _ (Code.region 11 _ true) _ _ _; refine awp_drawn_k (id := 11) [4, 6] [] [.win [0, 1], .win [0], .win [0], .win [0], .eff 0, .win [1], .eff 1] 2 rfl (by as_aux_lemma => kernel_rfl) fun Kn Kp hn hp => ?_ | refine oge_intro (by assumption) ?_) <;> (simp only [go_sem, Nat.reduceAdd, Nat.reduceSub, Nat.reduceMul, Nat.reduceLeDiff, Nat.reduceLT, Nat.reduceEqDiff, Int.reduceToNat, Int.reduceAdd, Int.reduceMul, Int.reduceSub, Int.reduceLT, Int.reduceLE, Int.reduceEq, Int.reduceNeg, Int.reduceBEq, Int.reduceBNe, ↓reduceIte, reduceCtorEq, hlt, hk, encS_eq, h2k] <;> try simp (disch := omega) only [wrap_of])) | (refine hn _ _ ?_; clear hn hp Kn Kp) | (refine hp _ _ _ ?_; clear hn hp Kn Kp) | (refine awp_cond rfl (fun hb => ?_) (fun hb => ?_) <;> (try simp only [decide_eq_true_eq, decide_eq_false_iff_not, Bool.not_eq_true', Bool.not_eq_false', Bool.true_eq_false, Bool.false_eq_true, beq_iff_eq, bne_iff_ne, bne_eq_false_iff_eq, beq_eq_false_iff_ne, gt_iff_lt, ge_iff_le, Int.reduceEq, Int.reduceNe, Int.reduceLT, Int.reduceLE, ne_eq, not_true_eq_false, not_false_eq_true] at hb)) | ((first | refine awg_split (fun hb => ?_) (fun hb => ?_) | refine awsg_split (fun hb => ?_) (fun hb => ?_) | refine awe_cases (must_c _ _ _) (fun hb => ?_) (fun hb => ?_)) <;> have hb0 := hb <;> (try simp only [decide_eq_true_eq, decide_eq_false_iff_not, Bool.not_eq_true', Bool.not_eq_false', Bool.true_eq_false, Bool.false_eq_true, beq_iff_eq, bne_iff_ne, bne_eq_false_iff_eq, beq_eq_false_iff_ne, gt_iff_lt, ge_iff_le, Int.reduceEq, Int.reduceNe, Int.reduceLT, Int.reduceLE, ne_eq, not_true_eq_false, not_false_eq_true] at hb0) <;> (try simp only [beq_true, beq_false, Bool.not_eq_true', Bool.not_eq_false'] at hb) <;> (simp only [go_sem, Nat.reduceAdd, Nat.reduceSub, Nat.reduceMul, Nat.reduceLeDiff, Nat.reduceLT, Nat.reduceEqDiff, Int.reduceToNat, Int.reduceAdd, Int.reduceMul, Int.reduceSub, Int.reduceLT, Int.reduceLE, Int.reduceEq, Int.reduceNeg, Int.reduceBEq, Int.reduceBNe, ↓reduceIte, reduceCtorEq, hlt, hk, encS_eq, h2k, hb, hb0] <;> try simp (disch := omega) only [wrap_of])) | (refine And.intro ?_ ?_) | refine awp_skip ?_ | refine awp_ret ?_ | refine awp_exit ?_ | refine awp_label ?_ | refine awloop_step ?_ | fail)
            all_goals first
              | omega
              | ((refine panX ?_; try exact True.intro))
        · have h2k' : (k.kind == 2) = false := by simpa using h2k
          simp only [h2k, if_false, show (1 : Int) ≠ 0 from by decide] at h4
          rw [h4]
          simp only [outE, show (1 : Int) ≠ 0 from by decide, if_false]
          (have rr1 := dr78_6_U13; have rr2 := dr78_7_U13; have rr3 := dr78_11_U13; have ww1 := hlt; have ww2 := hk; have ww3 := @encS_eq; have ww4 := h1k'; have ww5 := h2k'; refine wk ?_; clear rr1 rr2 rr3 ww1 ww2 ww3 ww4 ww5; (repeat' first | exact True.intro | refine Lf.mk ?_ ?_); all_goals intro hP)
          (refine panX ?_; try exact True.intro)
end Go.Proofs.Ytiifbdkedainnaa.Y

set_option maxHeartbeats 8000000
set_option linter.unusedVariables false
set_option linter.unusedSimpArgs false
namespace Go.Proofs.Ytiifbdkedainnaa.Y
open Go.Proofs.Ytiifbdkedainnaa.AL Go.Proofs Go
attribute [local irreducible] AWP AWL AWG AWR AWE AWX AWO AWSeq AWSG AWSR AWSO AWSE AWSF GoodP OGW OGR OGE OGX PGW PGR PGE Wk AWLoop AWPD AWLD

theorem handler_run (vs : List Un) (hvs : ∀ u ∈ vs, u.ok) (l : List St) (hM : manyL l ≤ 900000) (hF : fineL l) (H0 : List AObj) : ARun Try.prog 62 [chk vs, .rs 13 (l.map encS)] H0 (.ret (.i (handS vs l)) H0) := by
  have hc := fun H0 => countS_run (manyL l) l (Nat.le_refl _) (by omega) 100 H0 (by omega) (by omega)
  have hcm := cntSL_many l 100 (by omega)
  have hs := fun H0 => small_run (manyL l) l (Nat.le_refl _) hM hF H0
  have ht := fun H0 => stmts_run vs hvs (totL l) l (Nat.le_refl _) hF H0
  unfold handS
  by_cases h100 : 100 < manyL l
  · have hle : ¬ cntSL l 100 0 ≤ 100 := by have := hcm.2 (by omega); omega
    simp only [h100, if_true]
    (refine ARun.introD Try.func62 rfl Try.call62 Try.ntmps62 Try.results62 ?_; simp only [List.length_cons, List.length_nil, List.length_map, Nat.reduceAdd, Nat.reduceSub, List.replicate_succ, List.replicate_zero, List.cons_append, List.nil_append])
    repeat' (first | refine awpd_seq ?_ | refine awp_block ?_ | (refine awpd_defer (id := 1) ?_; simp only [AWLD, go_sem, Nat.reduceAdd, Nat.reduceSub, Nat.reduceMul, Nat.reduceLeDiff, Nat.reduceLT, Nat.reduceEqDiff, Int.reduceToNat, Int.reduceAdd, Int.reduceMul, Int.reduceSub, Int.reduceLT, Int.reduceLE, Int.reduceEq, Int.reduceNeg, Int.reduceBEq, Int.reduceBNe, ↓reduceIte, reduceCtorEq, hle]) | ((first | refine awpd_region_k fun Kn Kp hn hp => ?_ | refine oge_intro (by assumption) ?_ | (show AWE _ _ _ _ _ _ _ _ _; first | refine awe_intro (hc _) ?_ | refine awe_intro (must_pan _ _) ?_) | (show AWSF _ _ _ _ _ _ _ _ _ _ _; first | refine awsf_intro (hc _) (fun hrun => ?_) | refine awsf_intro (must_pan _ _) (fun hrun => ?_)) | (show OGE _ _ _ _ _ _ _; first | refine oge_intro (hc _) ?_ | refine oge_intro (must_pan _ _) ?_) | (show AWSE _ _ _ _ _ _ _ _ _ _ _; first | refine awse_intro (hc _) (fun hrun => ?_) | refine awse_intro (must_pan _ _) (fun hrun => ?_)) | (show PGE _ _ _ _ _; first | refine pge_intro (hc _) (fun tm' => ?_) | refine pge_intro (must_pan _ _) (fun tm' => ?_))) <;> (simp only [go_sem, Nat.reduceAdd, Nat.reduceSub, Nat.reduceMul, Nat.reduceLeDiff, Nat.reduceLT, Nat.reduceEqDiff, Int.reduceToNat, Int.reduceAdd, Int.reduceMul, Int.reduceSub, Int.reduceLT, Int.reduceLE, Int.reduceEq, Int.reduceNeg, Int.reduceBEq, Int.reduceBNe, ↓reduceIte, reduceCtorEq, hle] <;> try simp (disch := omega) only [wrap_of])) | (refine hn _ _ ?_; clear hn hp Kn Kp) | (refine hp _ _ _ ?_; clear hn hp Kn Kp) | (refine awpd_cond rfl (fun hb => ?_) (fun hb => ?_) <;> (try simp only [decide_eq_true_eq, decide_eq_false_iff_not, Bool.not_eq_true', Bool.not_eq_false', Bool.true_eq_false, Bool.false_eq_true, beq_iff_eq, bne_iff_ne, bne_eq_false_iff_eq, beq_eq_false_iff_ne, gt_iff_lt, ge_iff_le, Int.reduceEq, Int.reduceNe, Int.reduceLT, Int.reduceLE, ne_eq, not_true_eq_false, not_false_eq_true] at hb)) | ((first | refine awg_split (fun hb => ?_) (fun hb => ?_) | refine awsg_split (fun hb => ?_) (fun hb => ?_)) <;> have hb0 := hb <;> (try simp only [decide_eq_true_eq, decide_eq_false_iff_not, Bool.not_eq_true', Bool.not_eq_false', Bool.true_eq_false, Bool.false_eq_true, beq_iff_eq, bne_iff_ne, bne_eq_false_iff_eq, beq_eq_false_iff_ne, gt_iff_lt, ge_iff_le, Int.reduceEq, Int.reduceNe, Int.reduceLT, Int.reduceLE, ne_eq, not_true_eq_false, not_false_eq_true] at hb0) <;> (try simp only [beq_true, beq_false, Bool.not_eq_true', Bool.not_eq_false'] at hb) <;> (simp only [go_sem, Nat.reduceAdd, Nat.reduceSub, Nat.reduceMul, Nat.reduceLeDiff, Nat.reduceLT, Nat.reduceEqDiff, Int.reduceToNat, Int.reduceAdd, Int.reduceMul, Int.reduceSub, Int.reduceLT, Int.reduceLE, Int.reduceEq, Int.reduceNeg, Int.reduceBEq, Int.reduceBNe, ↓reduceIte, reduceCtorEq, hle, hb, hb0] <;> try simp (disch := omega) only [wrap_of])) | (refine And.intro ?_ ?_) | refine awpd_ret ?_ | refine awpd_skip ?_ | refine awloop_step ?_ | fail)
    refine ⟨_, caught_pan _ _ 2 0 (getO0 _ _ _), ?_⟩
    ((try simp only [go_sem, Nat.reduceAdd, Nat.reduceSub, Nat.reduceMul, Nat.reduceLeDiff, Nat.reduceLT, Nat.reduceEqDiff, Int.reduceToNat, Int.reduceAdd, Int.reduceMul, Int.reduceSub, Int.reduceLT, Int.reduceLE, Int.reduceEq, Int.reduceNeg, Int.reduceBEq, Int.reduceBNe, ↓reduceIte, reduceCtorEq]); (first | refine ⟨_, rfl, _, rfl, Fin.pure0 0 ?_⟩ | refine ⟨_, rfl, _, rfl, Fin.pure 1 ?_⟩); simp only [AV.low, List.map_cons, List.map_nil, aOne, aev, List.getElem?_cons_zero, List.getElem?_cons_succ, Option.getD_some, List.length_append, List.length_cons, List.length_nil, Nat.lt_irrefl, if_false]; try rfl)
  · have hle : cntSL l 100 0 ≤ 100 := by rw [hcm.1 (by omega)]; omega
    simp only [h100, if_false]
    cases hS : smSL l with
    | false =>
      simp only [hS, outB] at hs
      simp only [Bool.false_eq_true, if_false]
      (refine ARun.introD Try.func62 rfl Try.call62 Try.ntmps62 Try.results62 ?_; simp only [List.length_cons, List.length_nil, List.length_map, Nat.reduceAdd, Nat.reduceSub, List.replicate_succ, List.replicate_zero, List.cons_append, List.nil_append])
      repeat' (first | refine awpd_seq ?_ | refine awp_block ?_ | (refine awpd_defer (id := 1) ?_; simp only [AWLD, go_sem, Nat.reduceAdd, Nat.reduceSub, Nat.reduceMul, Nat.reduceLeDiff, Nat.reduceLT, Nat.reduceEqDiff, Int.reduceToNat, Int.reduceAdd, Int.reduceMul, Int.reduceSub, Int.reduceLT, Int.reduceLE, Int.reduceEq, Int.reduceNeg, Int.reduceBEq, Int.reduceBNe, ↓reduceIte, reduceCtorEq, hle]) | ((first | refine awpd_region_k fun Kn Kp hn hp => ?_ | refine oge_intro (by assumption) ?_ | (show AWE _ _ _ _ _ _ _ _ _; first | refine awe_intro (hc _) ?_ | refine awe_intro (must_run _ _) ?_ | refine awe_intro (hs _) ?_) | (show AWSF _ _ _ _ _ _ _ _ _ _ _; first | refine awsf_intro (hc _) (fun hrun => ?_) | refine awsf_intro (must_run _ _) (fun hrun => ?_) | refine awsf_intro (hs _) (fun hrun => ?_)) | (show OGE _ _ _ _ _ _ _; first | refine oge_intro (hc _) ?_ | refine oge_intro (must_run _ _) ?_ | refine oge_intro (hs _) ?_) | (show AWSE _ _ _ _ _ _ _ _ _ _ _; first | refine awse_intro (hc _) (fun hrun => ?_) | refine awse_intro (must_run _ _) (fun hrun => ?_) | refine awse_intro (hs _) (fun hrun => ?_)) | (show PGE _ _ _ _ _; first | refine pge_intro (hc _) (fun tm' => ?_) | refine pge_intro (must_run _ _) (fun tm' => ?_) | refine pge_intro (hs _) (fun tm' => ?_))) <;> (simp only [go_sem, Nat.reduceAdd, Nat.reduceSub, Nat.reduceMul, Nat.reduceLeDiff, Nat.reduceLT, Nat.reduceEqDiff, Int.reduceToNat, Int.reduceAdd, Int.reduceMul, Int.reduceSub, Int.reduceLT, Int.reduceLE, Int.reduceEq, Int.reduceNeg, Int.reduceBEq, Int.reduceBNe, ↓reduceIte, reduceCtorEq, hle] <;> try simp (disch := omega) only [wrap_of])) | (refine hn _ _ ?_; clear hn hp Kn Kp) | (refine hp _ _ _ ?_; clear hn hp Kn Kp) | (refine awpd_cond rfl (fun hb => ?_) (fun hb => ?_) <;> (try simp only [decide_eq_true_eq, decide_eq_false_iff_not, Bool.not_eq_true', Bool.not_eq_false', Bool.true_eq_false, Bool.false_eq_true, beq_iff_eq, bne_iff_ne, bne_eq_false_iff_eq, beq_eq_false_iff_ne, gt_iff_lt, ge_iff_le, Int.reduceEq, Int.reduceNe, Int.reduceLT, Int.reduceLE, ne_eq, not_true_eq_false, not_false_eq_true] at hb)) | ((first | refine awg_split (fun hb => ?_) (fun hb => ?_) | refine awsg_split (fun hb => ?_) (fun hb => ?_)) <;> have hb0 := hb <;> (try simp only [decide_eq_true_eq, decide_eq_false_iff_not, Bool.not_eq_true', Bool.not_eq_false', Bool.true_eq_false, Bool.false_eq_true, beq_iff_eq, bne_iff_ne, bne_eq_false_iff_eq, beq_eq_false_iff_ne, gt_iff_lt, ge_iff_le, Int.reduceEq, Int.reduceNe, Int.reduceLT, Int.reduceLE, ne_eq, not_true_eq_false, not_false_eq_true] at hb0) <;> (try simp only [beq_true, beq_false, Bool.not_eq_true', Bool.not_eq_false'] at hb) <;> (simp only [go_sem, Nat.reduceAdd, Nat.reduceSub, Nat.reduceMul, Nat.reduceLeDiff, Nat.reduceLT, Nat.reduceEqDiff, Int.reduceToNat, Int.reduceAdd, Int.reduceMul, Int.reduceSub, Int.reduceLT, Int.reduceLE, Int.reduceEq, Int.reduceNeg, Int.reduceBEq, Int.reduceBNe, ↓reduceIte, reduceCtorEq, hle, hb, hb0] <;> try simp (disch := omega) only [wrap_of])) | (refine And.intro ?_ ?_) | refine awpd_ret ?_ | refine awpd_skip ?_ | refine awloop_step ?_ | fail)
      refine ⟨_, caught_pan _ _ 2 0 (getO0 _ _ _), ?_⟩
      ((try simp only [go_sem, Nat.reduceAdd, Nat.reduceSub, Nat.reduceMul, Nat.reduceLeDiff, Nat.reduceLT, Nat.reduceEqDiff, Int.reduceToNat, Int.reduceAdd, Int.reduceMul, Int.reduceSub, Int.reduceLT, Int.reduceLE, Int.reduceEq, Int.reduceNeg, Int.reduceBEq, Int.reduceBNe, ↓reduceIte, reduceCtorEq]); (first | refine ⟨_, rfl, _, rfl, Fin.pure0 0 ?_⟩ | refine ⟨_, rfl, _, rfl, Fin.pure 1 ?_⟩); simp only [AV.low, List.map_cons, List.map_nil, aOne, aev, List.getElem?_cons_zero, List.getElem?_cons_succ, Option.getD_some, List.length_append, List.length_cons, List.length_nil, Nat.lt_irrefl, if_false]; try rfl)
    | true =>
      simp only [hS, outB] at hs
      simp only [if_true]
      by_cases hT : stSL vs l = 0
      · simp only [outE, hT, if_true] at ht
        rw [hT]
        (refine ARun.introD Try.func62 rfl Try.call62 Try.ntmps62 Try.results62 ?_; simp only [List.length_cons, List.length_nil, List.length_map, Nat.reduceAdd, Nat.reduceSub, List.replicate_succ, List.replicate_zero, List.cons_append, List.nil_append])
        repeat' (first | refine awpd_seq ?_ | refine awp_block ?_ | (refine awpd_defer (id := 1) ?_; simp only [AWLD, go_sem, Nat.reduceAdd, Nat.reduceSub, Nat.reduceMul, Nat.reduceLeDiff, Nat.reduceLT, Nat.reduceEqDiff, Int.reduceToNat, Int.reduceAdd, Int.reduceMul, Int.reduceSub, Int.reduceLT, Int.reduceLE, Int.reduceEq, Int.reduceNeg, Int.reduceBEq, Int.reduceBNe, ↓reduceIte, reduceCtorEq, hle]) | ((first | refine awpd_region_k fun Kn Kp hn hp => ?_ | refine oge_intro (by assumption) ?_ | (show AWE _ _ _ _ _ _ _ _ _; first | refine awe_intro (hc _) ?_ | refine awe_intro (must_run _ _) ?_ | refine awe_intro (hs _) ?_ | refine awe_intro (ht _) ?_) | (show AWSF _ _ _ _ _ _ _ _ _ _ _; first | refine awsf_intro (hc _) (fun hrun => ?_) | refine awsf_intro (must_run _ _) (fun hrun => ?_) | refine awsf_intro (hs _) (fun hrun => ?_) | refine awsf_intro (ht _) (fun hrun => ?_)) | (show OGE _ _ _ _ _ _ _; first | refine oge_intro (hc _) ?_ | refine oge_intro (must_run _ _) ?_ | refine oge_intro (hs _) ?_ | refine oge_intro (ht _) ?_) | (show AWSE _ _ _ _ _ _ _ _ _ _ _; first | refine awse_intro (hc _) (fun hrun => ?_) | refine awse_intro (must_run _ _) (fun hrun => ?_) | refine awse_intro (hs _) (fun hrun => ?_) | refine awse_intro (ht _) (fun hrun => ?_)) | (show PGE _ _ _ _ _; first | refine pge_intro (hc _) (fun tm' => ?_) | refine pge_intro (must_run _ _) (fun tm' => ?_) | refine pge_intro (hs _) (fun tm' => ?_) | refine pge_intro (ht _) (fun tm' => ?_))) <;> (simp only [go_sem, Nat.reduceAdd, Nat.reduceSub, Nat.reduceMul, Nat.reduceLeDiff, Nat.reduceLT, Nat.reduceEqDiff, Int.reduceToNat, Int.reduceAdd, Int.reduceMul, Int.reduceSub, Int.reduceLT, Int.reduceLE, Int.reduceEq, Int.reduceNeg, Int.reduceBEq, Int.reduceBNe, ↓reduceIte, reduceCtorEq, hle] <;> try simp (disch := omega) only [wrap_of])) | (refine hn _ _ ?_; clear hn hp Kn Kp) | (refine hp _ _ _ ?_; clear hn hp Kn Kp) | (refine awpd_cond rfl (fun hb => ?_) (fun hb => ?_) <;> (try simp only [decide_eq_true_eq, decide_eq_false_iff_not, Bool.not_eq_true', Bool.not_eq_false', Bool.true_eq_false, Bool.false_eq_true, beq_iff_eq, bne_iff_ne, bne_eq_false_iff_eq, beq_eq_false_iff_ne, gt_iff_lt, ge_iff_le, Int.reduceEq, Int.reduceNe, Int.reduceLT, Int.reduceLE, ne_eq, not_true_eq_false, not_false_eq_true] at hb)) | ((first | refine awg_split (fun hb => ?_) (fun hb => ?_) | refine awsg_split (fun hb => ?_) (fun hb => ?_)) <;> have hb0 := hb <;> (try simp only [decide_eq_true_eq, decide_eq_false_iff_not, Bool.not_eq_true', Bool.not_eq_false', Bool.true_eq_false, Bool.false_eq_true, beq_iff_eq, bne_iff_ne, bne_eq_false_iff_eq, beq_eq_false_iff_ne, gt_iff_lt, ge_iff_le, Int.reduceEq, Int.reduceNe, Int.reduceLT, Int.reduceLE, ne_eq, not_true_eq_false, not_false_eq_true] at hb0) <;> (try simp only [beq_true, beq_false, Bool.not_eq_true', Bool.not_eq_false'] at hb) <;> (simp only [go_sem, Nat.reduceAdd, Nat.reduceSub, Nat.reduceMul, Nat.reduceLeDiff, Nat.reduceLT, Nat.reduceEqDiff, Int.reduceToNat, Int.reduceAdd, Int.reduceMul, Int.reduceSub, Int.reduceLT, Int.reduceLE, Int.reduceEq, Int.reduceNeg, Int.reduceBEq, Int.reduceBNe, ↓reduceIte, reduceCtorEq, hle, hb, hb0] <;> try simp (disch := omega) only [wrap_of])) | (refine And.intro ?_ ?_) | refine awpd_ret ?_ | refine awpd_skip ?_ | refine awloop_step ?_ | fail)
        refine ⟨_, caught_none _ _, ?_⟩
        ((try simp only [go_sem, Nat.reduceAdd, Nat.reduceSub, Nat.reduceMul, Nat.reduceLeDiff, Nat.reduceLT, Nat.reduceEqDiff, Int.reduceToNat, Int.reduceAdd, Int.reduceMul, Int.reduceSub, Int.reduceLT, Int.reduceLE, Int.reduceEq, Int.reduceNeg, Int.reduceBEq, Int.reduceBNe, ↓reduceIte, reduceCtorEq]); (first | refine ⟨_, rfl, _, rfl, Fin.pure0 0 ?_⟩ | refine ⟨_, rfl, _, rfl, Fin.pure 1 ?_⟩); simp only [AV.low, List.map_cons, List.map_nil, aOne, aev, List.getElem?_cons_zero, List.getElem?_cons_succ, Option.getD_some, List.length_append, List.length_cons, List.length_nil, Nat.lt_irrefl, if_false]; try rfl)
      · simp only [outE, hT, if_false] at ht
        (refine ARun.introD Try.func62 rfl Try.call62 Try.ntmps62 Try.results62 ?_; simp only [List.length_cons, List.length_nil, List.length_map, Nat.reduceAdd, Nat.reduceSub, List.replicate_succ, List.replicate_zero, List.cons_append, List.nil_append])
        repeat' (first | refine awpd_seq ?_ | refine awp_block ?_ | (refine awpd_defer (id := 1) ?_; simp only [AWLD, go_sem, Nat.reduceAdd, Nat.reduceSub, Nat.reduceMul, Nat.reduceLeDiff, Nat.reduceLT, Nat.reduceEqDiff, Int.reduceToNat, Int.reduceAdd, Int.reduceMul, Int.reduceSub, Int.reduceLT, Int.reduceLE, Int.reduceEq, Int.reduceNeg, Int.reduceBEq, Int.reduceBNe, ↓reduceIte, reduceCtorEq, hle]) | ((first | refine awpd_region_k fun Kn Kp hn hp => ?_ | refine oge_intro (by assumption) ?_ | (show AWE _ _ _ _ _ _ _ _ _; first | refine awe_intro (hc _) ?_ | refine awe_intro (must_run _ _) ?_ | refine awe_intro (hs _) ?_ | refine awe_intro (ht _) ?_) | (show AWSF _ _ _ _ _ _ _ _ _ _ _; first | refine awsf_intro (hc _) (fun hrun => ?_) | refine awsf_intro (must_run _ _) (fun hrun => ?_) | refine awsf_intro (hs _) (fun hrun => ?_) | refine awsf_intro (ht _) (fun hrun => ?_)) | (show OGE _ _ _ _ _ _ _; first | refine oge_intro (hc _) ?_ | refine oge_intro (must_run _ _) ?_ | refine oge_intro (hs _) ?_ | refine oge_intro (ht _) ?_) | (show AWSE _ _ _ _ _ _ _ _ _ _ _; first | refine awse_intro (hc _) (fun hrun => ?_) | refine awse_intro (must_run _ _) (fun hrun => ?_) | refine awse_intro (hs _) (fun hrun => ?_) | refine awse_intro (ht _) (fun hrun => ?_)) | (show PGE _ _ _ _ _; first | refine pge_intro (hc _) (fun tm' => ?_) | refine pge_intro (must_run _ _) (fun tm' => ?_) | refine pge_intro (hs _) (fun tm' => ?_) | refine pge_intro (ht _) (fun tm' => ?_))) <;> (simp only [go_sem, Nat.reduceAdd, Nat.reduceSub, Nat.reduceMul, Nat.reduceLeDiff, Nat.reduceLT, Nat.reduceEqDiff, Int.reduceToNat, Int.reduceAdd, Int.reduceMul, Int.reduceSub, Int.reduceLT, Int.reduceLE, Int.reduceEq, Int.reduceNeg, Int.reduceBEq, Int.reduceBNe, ↓reduceIte, reduceCtorEq, hle] <;> try simp (disch := omega) only [wrap_of])) | (refine hn _ _ ?_; clear hn hp Kn Kp) | (refine hp _ _ _ ?_; clear hn hp Kn Kp) | (refine awpd_cond rfl (fun hb => ?_) (fun hb => ?_) <;> (try simp only [decide_eq_true_eq, decide_eq_false_iff_not, Bool.not_eq_true', Bool.not_eq_false', Bool.true_eq_false, Bool.false_eq_true, beq_iff_eq, bne_iff_ne, bne_eq_false_iff_eq, beq_eq_false_iff_ne, gt_iff_lt, ge_iff_le, Int.reduceEq, Int.reduceNe, Int.reduceLT, Int.reduceLE, ne_eq, not_true_eq_false, not_false_eq_true] at hb)) | ((first | refine awg_split (fun hb => ?_) (fun hb => ?_) | refine awsg_split (fun hb => ?_) (fun hb => ?_)) <;> have hb0 := hb <;> (try simp only [decide_eq_true_eq, decide_eq_false_iff_not, Bool.not_eq_true', Bool.not_eq_false', Bool.true_eq_false, Bool.false_eq_true, beq_iff_eq, bne_iff_ne, bne_eq_false_iff_eq, beq_eq_false_iff_ne, gt_iff_lt, ge_iff_le, Int.reduceEq, Int.reduceNe, Int.reduceLT, Int.reduceLE, ne_eq, not_true_eq_false, not_false_eq_true] at hb0) <;> (try simp only [beq_true, beq_false, Bool.not_eq_true', Bool.not_eq_false'] at hb) <;> (simp only [go_sem, Nat.reduceAdd, Nat.reduceSub, Nat.reduceMul, Nat.reduceLeDiff, Nat.reduceLT, Nat.reduceEqDiff, Int.reduceToNat, Int.reduceAdd, Int.reduceMul, Int.reduceSub, Int.reduceLT, Int.reduceLE, Int.reduceEq, Int.reduceNeg, Int.reduceBEq, Int.reduceBNe, ↓reduceIte, reduceCtorEq, hle, hb, hb0] <;> try simp (disch := omega) only [wrap_of])) | (refine And.intro ?_ ?_) | refine awpd_ret ?_ | refine awpd_skip ?_ | refine awloop_step ?_ | fail)
        refine ⟨_, caught_pan _ _ _ 0 (getO0 _ _ _), ?_⟩
        ((try simp only [go_sem, Nat.reduceAdd, Nat.reduceSub, Nat.reduceMul, Nat.reduceLeDiff, Nat.reduceLT, Nat.reduceEqDiff, Int.reduceToNat, Int.reduceAdd, Int.reduceMul, Int.reduceSub, Int.reduceLT, Int.reduceLE, Int.reduceEq, Int.reduceNeg, Int.reduceBEq, Int.reduceBNe, ↓reduceIte, reduceCtorEq]); (first | refine ⟨_, rfl, _, rfl, Fin.pure0 0 ?_⟩ | refine ⟨_, rfl, _, rfl, Fin.pure 1 ?_⟩); simp only [AV.low, List.map_cons, List.map_nil, aOne, aev, List.getElem?_cons_zero, List.getElem?_cons_succ, Option.getD_some, List.length_append, List.length_cons, List.length_nil, Nat.lt_irrefl, if_false]; try rfl)
end Go.Proofs.Ytiifbdkedainnaa.Y

set_option maxHeartbeats 8000000
set_option linter.unusedVariables false
set_option linter.unusedSimpArgs false
namespace Go.Proofs.Ytiifbdkedainnaa.Y
open Go.Proofs.Ytiifbdkedainnaa.AL Go.Proofs Go
attribute [local irreducible] AWP AWL AWG AWR AWE AWX AWO AWSeq AWSG AWSR AWSO AWSE AWSF GoodP OGW OGR OGE OGX PGW PGR PGE Wk AWLoop AWPD AWLD

def ansC (x : Int × Int) : AV := .tup [.i x.1, .i x.2]
theorem Check_run (p : Prg) (hl : p.vars.length ≤ 1000000) (hok : okP p) (H0 : List AObj) : ARun Try.prog 42 [.ag (cP p)] H0 (.ret (ansC (checkS p)) H0) := by
  unfold checkS
  cases hks : ksL p.vars with
  | none =>
    (refine ARun.intro Try.func42 rfl Try.call42 Try.ntmps42 Try.results42 ?_; simp only [List.length_cons, List.length_nil, List.length_map, Nat.reduceAdd, Nat.reduceSub, List.replicate_succ, List.replicate_zero, List.cons_append, List.nil_append])
    repeat' (first | refine awp_seq ?_ | refine awp_block ?_ | refine awp_scope ?_ | ((first | refine awp_region_k fun Kn Kp hn hp => ?_ | refine oge_intro (by assumption) ?_ | (show AWE _ _ _ _ _ _ _ _ _; first | refine awe_intro (start_run p.vars hl _) ?_) | (show AWSF _ _ _ _ _ _ _ _ _ _ _; first | refine awsf_intro (start_run p.vars hl _) (fun hrun => ?_)) | (show OGE _ _ _ _ _ _ _; first | refine oge_intro (start_run p.vars hl _) ?_) | (show AWSE _ _ _ _ _ _ _ _ _ _ _; first | refine awse_intro (start_run p.vars hl _) (fun hrun => ?_)) | (show PGE _ _ _ _ _; first | refine pge_intro (start_run p.vars hl _) (fun tm' => ?_))) <;> (simp only [go_sem, Nat.reduceAdd, Nat.reduceSub, Nat.reduceMul, Nat.reduceLeDiff, Nat.reduceLT, Nat.reduceEqDiff, Int.reduceToNat, Int.reduceAdd, Int.reduceMul, Int.reduceSub, Int.reduceLT, Int.reduceLE, Int.reduceEq, Int.reduceNeg, Int.reduceBEq, Int.reduceBNe, ↓reduceIte, reduceCtorEq, startAns, hks] <;> try simp (disch := omega) only [wrap_of])) | (refine hn _ _ ?_; clear hn hp Kn Kp) | (refine hp _ _ _ ?_; clear hn hp Kn Kp) | (refine awp_cond rfl (fun hb => ?_) (fun hb => ?_) <;> (try simp only [decide_eq_true_eq, decide_eq_false_iff_not, Bool.not_eq_true', Bool.not_eq_false', Bool.true_eq_false, Bool.false_eq_true, beq_iff_eq, bne_iff_ne, bne_eq_false_iff_eq, beq_eq_false_iff_ne, gt_iff_lt, ge_iff_le, Int.reduceEq, Int.reduceNe, Int.reduceLT, Int.reduceLE, ne_eq, not_true_eq_false, not_false_eq_true] at hb)) | ((first | refine awg_split (fun hb => ?_) (fun hb => ?_) | refine awsg_split (fun hb => ?_) (fun hb => ?_)) <;> have hb0 := hb <;> (try simp only [decide_eq_true_eq, decide_eq_false_iff_not, Bool.not_eq_true', Bool.not_eq_false', Bool.true_eq_false, Bool.false_eq_true, beq_iff_eq, bne_iff_ne, bne_eq_false_iff_eq, beq_eq_false_iff_ne, gt_iff_lt, ge_iff_le, Int.reduceEq, Int.reduceNe, Int.reduceLT, Int.reduceLE, ne_eq, not_true_eq_false, not_false_eq_true] at hb0) <;> (try simp only [beq_true, beq_false, Bool.not_eq_true', Bool.not_eq_false'] at hb) <;> (simp only [go_sem, Nat.reduceAdd, Nat.reduceSub, Nat.reduceMul, Nat.reduceLeDiff, Nat.reduceLT, Nat.reduceEqDiff, Int.reduceToNat, Int.reduceAdd, Int.reduceMul, Int.reduceSub, Int.reduceLT, Int.reduceLE, Int.reduceEq, Int.reduceNeg, Int.reduceBEq, Int.reduceBNe, ↓reduceIte, reduceCtorEq, startAns, hks, hb, hb0] <;> try simp (disch := omega) only [wrap_of])) | (refine And.intro ?_ ?_) | refine awp_skip ?_ | refine awp_ret ?_ | refine awp_exit ?_ | refine awp_label ?_ | refine awloop_step ?_ | fail)
    ((try simp only [go_sem, Nat.reduceAdd, Nat.reduceSub, Nat.reduceMul, Nat.reduceLeDiff, Nat.reduceLT, Nat.reduceEqDiff, Int.reduceToNat, Int.reduceAdd, Int.reduceMul, Int.reduceSub, Int.reduceLT, Int.reduceLE, Int.reduceEq, Int.reduceNeg, Int.reduceBEq, Int.reduceBNe, ↓reduceIte, reduceCtorEq]); (first | refine ⟨_, rfl, _, rfl, Fin.pure0 0 ?_⟩ | refine ⟨_, rfl, _, rfl, Fin.pure 1 ?_⟩); simp only [AV.low, List.map_cons, List.map_nil, aOne, aev, List.getElem?_cons_zero, List.getElem?_cons_succ, Option.getD_some, List.length_append, List.length_cons, List.length_nil, Nat.lt_irrefl, if_false]; try rfl)
    all_goals simp [ansC]
  | some vs =>
    by_cases h12 : 12 < p.vars.length
    · have h12' : decide (p.vars.length ≤ 12) = false := by simp; omega
      simp only [h12, if_true]
      (refine ARun.intro Try.func42 rfl Try.call42 Try.ntmps42 Try.results42 ?_; simp only [List.length_cons, List.length_nil, List.length_map, Nat.reduceAdd, Nat.reduceSub, List.replicate_succ, List.replicate_zero, List.cons_append, List.nil_append])
      repeat' (first | refine awp_seq ?_ | refine awp_block ?_ | refine awp_scope ?_ | ((first | refine awp_region_k fun Kn Kp hn hp => ?_ | refine oge_intro (by assumption) ?_ | (show AWE _ _ _ _ _ _ _ _ _; first | refine awe_intro (start_run p.vars hl _) ?_) | (show AWSF _ _ _ _ _ _ _ _ _ _ _; first | refine awsf_intro (start_run p.vars hl _) (fun hrun => ?_)) | (show OGE _ _ _ _ _ _ _; first | refine oge_intro (start_run p.vars hl _) ?_) | (show AWSE _ _ _ _ _ _ _ _ _ _ _; first | refine awse_intro (start_run p.vars hl _) (fun hrun => ?_)) | (show PGE _ _ _ _ _; first | refine pge_intro (start_run p.vars hl _) (fun tm' => ?_))) <;> (simp only [go_sem, Nat.reduceAdd, Nat.reduceSub, Nat.reduceMul, Nat.reduceLeDiff, Nat.reduceLT, Nat.reduceEqDiff, Int.reduceToNat, Int.reduceAdd, Int.reduceMul, Int.reduceSub, Int.reduceLT, Int.reduceLE, Int.reduceEq, Int.reduceNeg, Int.reduceBEq, Int.reduceBNe, ↓reduceIte, reduceCtorEq, startAns, hks, h12'] <;> try simp (disch := omega) only [wrap_of])) | (refine hn _ _ ?_; clear hn hp Kn Kp) | (refine hp _ _ _ ?_; clear hn hp Kn Kp) | (refine awp_cond rfl (fun hb => ?_) (fun hb => ?_) <;> (try simp only [decide_eq_true_eq, decide_eq_false_iff_not, Bool.not_eq_true', Bool.not_eq_false', Bool.true_eq_false, Bool.false_eq_true, beq_iff_eq, bne_iff_ne, bne_eq_false_iff_eq, beq_eq_false_iff_ne, gt_iff_lt, ge_iff_le, Int.reduceEq, Int.reduceNe, Int.reduceLT, Int.reduceLE, ne_eq, not_true_eq_false, not_false_eq_true] at hb)) | ((first | refine awg_split (fun hb => ?_) (fun hb => ?_) | refine awsg_split (fun hb => ?_) (fun hb => ?_)) <;> have hb0 := hb <;> (try simp only [decide_eq_true_eq, decide_eq_false_iff_not, Bool.not_eq_true', Bool.not_eq_false', Bool.true_eq_false, Bool.false_eq_true, beq_iff_eq, bne_iff_ne, bne_eq_false_iff_eq, beq_eq_false_iff_ne, gt_iff_lt, ge_iff_le, Int.reduceEq, Int.reduceNe, Int.reduceLT, Int.reduceLE, ne_eq, not_true_eq_false, not_false_eq_true] at hb0) <;> (try simp only [beq_true, beq_false, Bool.not_eq_true', Bool.not_eq_false'] at hb) <;> (simp only [go_sem, Nat.reduceAdd, Nat.reduceSub, Nat.reduceMul, Nat.reduceLeDiff, Nat.reduceLT, Nat.reduceEqDiff, Int.reduceToNat, Int.reduceAdd, Int.reduceMul, Int.reduceSub, Int.reduceLT, Int.reduceLE, Int.reduceEq, Int.reduceNeg, Int.reduceBEq, Int.reduceBNe, ↓reduceIte, reduceCtorEq, startAns, hks, h12', hb, hb0] <;> try simp (disch := omega) only [wrap_of])) | (refine And.intro ?_ ?_) | refine awp_skip ?_ | refine awp_ret ?_ | refine awp_exit ?_ | refine awp_label ?_ | refine awloop_step ?_ | fail)
      ((try simp only [go_sem, Nat.reduceAdd, Nat.reduceSub, Nat.reduceMul, Nat.reduceLeDiff, Nat.reduceLT, Nat.reduceEqDiff, Int.reduceToNat, Int.reduceAdd, Int.reduceMul, Int.reduceSub, Int.reduceLT, Int.reduceLE, Int.reduceEq, Int.reduceNeg, Int.reduceBEq, Int.reduceBNe, ↓reduceIte, reduceCtorEq]); (first | refine ⟨_, rfl, _, rfl, Fin.pure0 0 ?_⟩ | refine ⟨_, rfl, _, rfl, Fin.pure 1 ?_⟩); simp only [AV.low, List.map_cons, List.map_nil, aOne, aev, List.getElem?_cons_zero, List.getElem?_cons_succ, Option.getD_some, List.length_append, List.length_cons, List.length_nil, Nat.lt_irrefl, if_false]; try rfl)
      all_goals simp [ansC]
    · have h12' : decide (p.vars.length ≤ 12) = true := by simp; omega
      simp only [h12, if_false]
      have hvs := ksL_ok hks
      obtain ⟨⟨a0, b0⟩, ⟨a1, b1⟩, ⟨a2, b2⟩, ⟨a3, b3⟩, ⟨a4, b4⟩⟩ := hok
      have c0 := fun H0 => handler_run vs hvs p.on0 a0 b0 H0
      have c1 := fun H0 => handler_run vs hvs p.on1 a1 b1 H0
      have c2 := fun H0 => handler_run vs hvs p.on2 a2 b2 H0
      have c3 := fun H0 => handler_run vs hvs p.on3 a3 b3 H0
      have c4 := fun H0 => handler_run vs hvs p.on4 a4 b4 H0
      unfold evS
      (refine ARun.intro Try.func42 rfl Try.call42 Try.ntmps42 Try.results42 ?_; simp only [List.length_cons, List.length_nil, List.length_map, Nat.reduceAdd, Nat.reduceSub, List.replicate_succ, List.replicate_zero, List.cons_append, List.nil_append])
      repeat' (first | refine awp_seq ?_ | refine awp_block ?_ | refine awp_scope ?_ | ((first | refine awp_region_k fun Kn Kp hn hp => ?_ | refine oge_intro (by assumption) ?_ | (show AWE _ _ _ _ _ _ _ _ _; first | refine awe_intro (start_run p.vars hl _) ?_) | (show AWSF _ _ _ _ _ _ _ _ _ _ _; first | refine awsf_intro (start_run p.vars hl _) (fun hrun => ?_)) | (show OGE _ _ _ _ _ _ _; first | refine oge_intro (start_run p.vars hl _) ?_) | (show AWSE _ _ _ _ _ _ _ _ _ _ _; first | refine awse_intro (start_run p.vars hl _) (fun hrun => ?_)) | (show PGE _ _ _ _ _; first | refine pge_intro (start_run p.vars hl _) (fun tm' => ?_))) <;> (simp only [go_sem, Nat.reduceAdd, Nat.reduceSub, Nat.reduceMul, Nat.reduceLeDiff, Nat.reduceLT, Nat.reduceEqDiff, Int.reduceToNat, Int.reduceAdd, Int.reduceMul, Int.reduceSub, Int.reduceLT, Int.reduceLE, Int.reduceEq, Int.reduceNeg, Int.reduceBEq, Int.reduceBNe, ↓reduceIte, reduceCtorEq, startAns, hks, h12'] <;> try simp (disch := omega) only [wrap_of])) | (refine hn _ _ ?_; clear hn hp Kn Kp) | (refine hp _ _ _ ?_; clear hn hp Kn Kp) | (refine awp_cond rfl (fun hb => ?_) (fun hb => ?_) <;> (try simp only [decide_eq_true_eq, decide_eq_false_iff_not, Bool.not_eq_true', Bool.not_eq_false', Bool.true_eq_false, Bool.false_eq_true, beq_iff_eq, bne_iff_ne, bne_eq_false_iff_eq, beq_eq_false_iff_ne, gt_iff_lt, ge_iff_le, Int.reduceEq, Int.reduceNe, Int.reduceLT, Int.reduceLE, ne_eq, not_true_eq_false, not_false_eq_true] at hb)) | ((first | refine awg_split (fun hb => ?_) (fun hb => ?_) | refine awsg_split (fun hb => ?_) (fun hb => ?_)) <;> have hb0 := hb <;> (try simp only [decide_eq_true_eq, decide_eq_false_iff_not, Bool.not_eq_true', Bool.not_eq_false', Bool.true_eq_false, Bool.false_eq_true, beq_iff_eq, bne_iff_ne, bne_eq_false_iff_eq, beq_eq_false_iff_ne, gt_iff_lt, ge_iff_le, Int.reduceEq, Int.reduceNe, Int.reduceLT, Int.reduceLE, ne_eq, not_true_eq_false, not_false_eq_true] at hb0) <;> (try simp only [beq_true, beq_false, Bool.not_eq_true', Bool.not_eq_false'] at hb) <;> (simp only [go_sem, Nat.reduceAdd, Nat.reduceSub, Nat.reduceMul, Nat.reduceLeDiff, Nat.reduceLT, Nat.reduceEqDiff, Int.reduceToNat, Int.reduceAdd, Int.reduceMul, Int.reduceSub, Int.reduceLT, Int.reduceLE, Int.reduceEq, Int.reduceNeg, Int.reduceBEq, Int.reduceBNe, ↓reduceIte, reduceCtorEq, startAns, hks, h12', hb, hb0] <;> try simp (disch := omega) only [wrap_of])) | (refine And.intro ?_ ?_) | refine awp_skip ?_ | refine awp_ret ?_ | refine awp_exit ?_ | refine awp_label ?_ | refine awloop_step ?_ | fail)
      refine awp_loop 6 ?_
      repeat' (first | refine awp_seq ?_ | refine awp_block ?_ | refine awp_scope ?_ | ((first | refine awp_region_k fun Kn Kp hn hp => ?_ | refine oge_intro (by assumption) ?_ | (show AWE _ _ _ _ _ _ _ _ _; first | refine awe_intro (c0 _) ?_ | refine awe_intro (c1 _) ?_ | refine awe_intro (c2 _) ?_ | refine awe_intro (c3 _) ?_ | refine awe_intro (c4 _) ?_) | (show AWSF _ _ _ _ _ _ _ _ _ _ _; first | refine awsf_intro (c0 _) (fun hrun => ?_) | refine awsf_intro (c1 _) (fun hrun => ?_) | refine awsf_intro (c2 _) (fun hrun => ?_) | refine awsf_intro (c3 _) (fun hrun => ?_) | refine awsf_intro (c4 _) (fun hrun => ?_)) | (show OGE _ _ _ _ _ _ _; first | refine oge_intro (c0 _) ?_ | refine oge_intro (c1 _) ?_ | refine oge_intro (c2 _) ?_ | refine oge_intro (c3 _) ?_ | refine oge_intro (c4 _) ?_) | (show AWSE _ _ _ _ _ _ _ _ _ _ _; first | refine awse_intro (c0 _) (fun hrun => ?_) | refine awse_intro (c1 _) (fun hrun => ?_) | refine awse_intro (c2 _) (fun hrun => ?_) | refine awse_intro (c3 _) (fun hrun => ?_) | refine awse_intro (c4 _) (fun hrun => ?_)) | (show PGE _ _ _ _ _; first | refine pge_intro (c0 _) (fun tm' => ?_) | refine pge_intro (c1 _) (fun tm' => ?_) | refine pge_intro (c2 _) (fun tm' => ?_) | refine pge_intro (c3 _) (fun tm' => ?_) | refine pge_intro (c4 _) (fun tm' => ?_))) <;> (simp only [go_sem, Nat.reduceAdd, Nat.reduceSub, Nat.reduceMul, Nat.reduceLeDiff, Nat.reduceLT, Nat.reduceEqDiff, Int.reduceToNat, Int.reduceAdd, Int.reduceMul, Int.reduceSub, Int.reduceLT, Int.reduceLE, Int.reduceEq, Int.reduceNeg, Int.reduceBEq, Int.reduceBNe, ↓reduceIte, reduceCtorEq, Int.reduceAdd] <;> try simp (disch := omega) only [wrap_of])) | (refine hn _ _ ?_; clear hn hp Kn Kp) | (refine hp _ _ _ ?_; clear hn hp Kn Kp) | (refine awp_cond rfl (fun hb => ?_) (fun hb => ?_) <;> (try simp only [decide_eq_true_eq, decide_eq_false_iff_not, Bool.not_eq_true', Bool.not_eq_false', Bool.true_eq_false, Bool.false_eq_true, beq_iff_eq, bne_iff_ne, bne_eq_false_iff_eq, beq_eq_false_iff_ne, gt_iff_lt, ge_iff_le, Int.reduceEq, Int.reduceNe, Int.reduceLT, Int.reduceLE, ne_eq, not_true_eq_false, not_false_eq_true] at hb)) | ((first | refine awg_split (fun hb => ?_) (fun hb => ?_) | refine awsg_split (fun hb => ?_) (fun hb => ?_)) <;> have hb0 := hb <;> (try simp only [decide_eq_true_eq, decide_eq_false_iff_not, Bool.not_eq_true', Bool.not_eq_false', Bool.true_eq_false, Bool.false_eq_true, beq_iff_eq, bne_iff_ne, bne_eq_false_iff_eq, beq_eq_false_iff_ne, gt_iff_lt, ge_iff_le, Int.reduceEq, Int.reduceNe, Int.reduceLT, Int.reduceLE, ne_eq, not_true_eq_false, not_false_eq_true] at hb0) <;> (try simp only [beq_true, beq_false, Bool.not_eq_true', Bool.not_eq_false'] at hb) <;> (simp only [go_sem, Nat.reduceAdd, Nat.reduceSub, Nat.reduceMul, Nat.reduceLeDiff, Nat.reduceLT, Nat.reduceEqDiff, Int.reduceToNat, Int.reduceAdd, Int.reduceMul, Int.reduceSub, Int.reduceLT, Int.reduceLE, Int.reduceEq, Int.reduceNeg, Int.reduceBEq, Int.reduceBNe, ↓reduceIte, reduceCtorEq, Int.reduceAdd, hb, hb0] <;> try simp (disch := omega) only [wrap_of])) | (refine And.intro ?_ ?_) | refine awp_skip ?_ | refine awp_ret ?_ | refine awp_exit ?_ | refine awp_label ?_ | refine awloop_step ?_ | fail)
      all_goals
        ((try simp only [go_sem, Nat.reduceAdd, Nat.reduceSub, Nat.reduceMul, Nat.reduceLeDiff, Nat.reduceLT, Nat.reduceEqDiff, Int.reduceToNat, Int.reduceAdd, Int.reduceMul, Int.reduceSub, Int.reduceLT, Int.reduceLE, Int.reduceEq, Int.reduceNeg, Int.reduceBEq, Int.reduceBNe, ↓reduceIte, reduceCtorEq]); (first | refine ⟨_, rfl, _, rfl, Fin.pure0 0 ?_⟩ | refine ⟨_, rfl, _, rfl, Fin.pure 1 ?_⟩); simp only [AV.low, List.map_cons, List.map_nil, aOne, aev, List.getElem?_cons_zero, List.getElem?_cons_succ, Option.getD_some, List.length_append, List.length_cons, List.length_nil, Nat.lt_irrefl, if_false]; try rfl)
        simp [ansC, *]
end Go.Proofs.Ytiifbdkedainnaa.Y

set_option maxHeartbeats 8000000
set_option linter.unusedVariables false
set_option linter.unusedSimpArgs false
namespace Go.Proofs.Ytiifbdkedainnaa.Y
open Go.Proofs.Ytiifbdkedainnaa.AL Go.Proofs Go
attribute [local irreducible] AWP AWL AWG AWR AWE AWX AWO AWSeq AWSG AWSR AWSO AWSE AWSF GoodP OGW OGR OGE OGX PGW PGR PGE Wk AWLoop AWPD AWLD

end Go.Proofs.Ytiifbdkedainnaa.Y

set_option maxHeartbeats 8000000
set_option linter.unusedVariables false
set_option linter.unusedSimpArgs false
namespace Go.Proofs.Ytiifbdkedainnaa.Y
open Go.Proofs.Ytiifbdkedainnaa.AL Go.Proofs Go
attribute [local irreducible] AWP AWL AWG AWR AWE AWX AWO AWSeq AWSG AWSR AWSO AWSE AWSF GoodP OGW OGR OGE OGX PGW PGR PGE Wk AWLoop AWPD AWLD

end Go.Proofs.Ytiifbdkedainnaa.Y

/- The fixed examples. -/
namespace Go.Proofs.Ytiifbdkedainnaa.AL
def xw : Ex := .mk 2 0 0 []
def xp : Ex := .mk 2 1 0 []
def xin (n : Int) : Ex := .mk 3 n 0 []
def xnum (n u : Int) : Ex := .mk 1 n u []
def xtwo (op : Int) (a b : Ex) : Ex := .mk op 0 0 [a, b]
def xrate : Ex := xtwo 7 (xtwo 6 (xin 2) (xnum 8 0)) (xin 1)
def xsq : Ex := xtwo 6 (xtwo 6 xw xw) (xtwo 6 xw xw)
theorem hd1 : isS (xtwo 4 xw (xnum 1 1)) ⟨1, 0, 0⟩ = true := by decide
theorem hd2 : failsS (xtwo 4 xw (xnum 1 0)) 13 = true := by decide
theorem hd3 : isS xrate ⟨0, 1, -1⟩ = true := by decide
theorem hd4 : isS (xtwo 7 (xtwo 6 xp (xin 1)) (xin 2)) ⟨0, 0, 0⟩ = true := by decide
theorem hd5 : isS xsq ⟨4, 0, 0⟩ = true := by decide
theorem hd6 : failsS (xtwo 6 xsq xw) 13 = true := by decide
theorem hd7 : failsS (.mk 2 2 0 []) 1 = true := by decide
theorem hd8 : failsS (.mk 4 0 0 [xw]) 1 = true := by decide
def pgood : Prg := ⟨⟨#[]⟩, varsL, [], [.mk 1 0 0 (xtwo 7 xw (xnum 2 0)) (.mk 0 0 0 []) [] []], [], [], [], 0, 0⟩
def pbad : Prg := ⟨⟨#[]⟩, varsL, [], [.mk 1 0 0 (xtwo 7 xw (xnum 2 0)) (.mk 0 0 0 []) [] []], [], [.mk 2 0 1 xw xp [] []], [], 0, 0⟩
theorem hd9 : checkS pgood = (-1, 0) := by decide
theorem hd10 : checkS pbad = (3, 13) := by decide
end Go.Proofs.Ytiifbdkedainnaa.AL

set_option maxHeartbeats 100000000
set_option maxRecDepth 20000
set_option linter.unusedVariables false
set_option linter.unusedSimpArgs false
namespace Go.Proofs.Ytiifbdkedainnaa.Y
open Go.Proofs.Ytiifbdkedainnaa.AL Go.Proofs Go
attribute [local irreducible] AWP AWL AWG AWR AWE AWX AWO AWSeq AWSG AWSR AWSO AWSE AWSF GoodP OGW OGR OGE OGX PGW PGR PGE Wk AWLoop AWPD AWLD

theorem good_run (H0 : List AObj) : ARun Try.prog 42 [.ag (cP pgood)] H0 (.ret (.tup [.i (-1), .i 0]) H0) := by
  have := Check_run pgood (by decide) (by refine ⟨⟨?_, ?_⟩, ⟨?_, ?_⟩, ⟨?_, ?_⟩, ⟨?_, ?_⟩, ⟨?_, ?_⟩⟩ <;> first | decide | trivial | simp [pgood, fineL, fine, nodes, nodesL, xtwo, xw, xnum]) H0
  rwa [hd9] at this
theorem bad_run (H0 : List AObj) : ARun Try.prog 42 [.ag (cP pbad)] H0 (.ret (.tup [.i 3, .i 13]) H0) := by
  have := Check_run pbad (by decide) (by refine ⟨⟨?_, ?_⟩, ⟨?_, ?_⟩, ⟨?_, ?_⟩, ⟨?_, ?_⟩, ⟨?_, ?_⟩⟩ <;> first | decide | trivial | simp [pbad, fineL, fine, nodes, nodesL, xtwo, xw, xnum, xp]) H0
  rwa [hd10] at this
end Go.Proofs.Ytiifbdkedainnaa.Y

set_option maxHeartbeats 8000000
set_option linter.unusedVariables false
set_option linter.unusedSimpArgs false
namespace Go.Proofs.Ytiifbdkedainnaa.Y
open Go.Proofs.Ytiifbdkedainnaa.AL Go.Proofs Go
attribute [local irreducible] AWP AWL AWG AWR AWE AWX AWO AWSeq AWSG AWSR AWSO AWSE AWSF GoodP OGW OGR OGE OGX PGW PGR PGE Wk AWLoop AWPD AWLD

theorem ksL_get : ∀ {l : List Vr} {us : List Un}, ksL l = some us → ∀ i : Nat, us[i]? = (l[i]?).bind fun v => ofK v.unit
  | [], us, h, i => by simp only [ksL, Option.some.injEq] at h; subst h; simp
  | v :: vs, us, h, i => by
    simp only [ksL] at h
    split at h
    · cases h
    · rename_i u hu
      split at h
      · cases h
      · rename_i ys hys
        simp only [Option.some.injEq] at h
        subst h
        cases i with
        | zero => simp [hu]
        | succ i => simpa using ksL_get hys i

def leafR (us : List Un) (e : Ex) : Except Int Un := if 0 < e.kids.length then .error 1 else leafS us e.op e.n e.unit
theorem Rleaf_run (l : List Vr) (us : List Un) (hks : ksL l = some us) (e : Ex) (H0 : List AObj) : ARun Try.prog 97 [.rs 5 (l.map encV), .ag (cE e)] H0 (.ret (ansU (leafR us e)) H0) := by
  have hg := ksL_get hks
  unfold leafR
  by_cases hk : 0 < e.kids.length
  · have hk' : (0 : Int) < e.kids.length := by omega
    simp only [hk, if_true]
    (refine ARun.intro Try.func97 rfl Try.call97 Try.ntmps97 Try.results97 ?_; simp only [List.length_cons, List.length_nil, List.length_map, Nat.reduceAdd, Nat.reduceSub, List.replicate_succ, List.replicate_zero, List.cons_append, List.nil_append])
    (have ww1 := hk'; refine wk ?_; clear ww1; (repeat' first | exact True.intro | refine Lf.mk ?_ ?_); all_goals intro hP)
    (refine resX ?_; try exact True.intro)
  · have hk' : ¬ (0 : Int) < e.kids.length := by omega
    simp only [hk, if_false]
    by_cases h1 : e.op = 1
    · by_cases hq : 0 ≤ e.n ∧ e.n ≤ 1000000000
      · obtain ⟨hn1, hn2⟩ := hq
        cases hku : ofK e.unit with
        | none =>
          (refine ARun.intro Try.func97 rfl Try.call97 Try.ntmps97 Try.results97 ?_; simp only [List.length_cons, List.length_nil, List.length_map, Nat.reduceAdd, Nat.reduceSub, List.replicate_succ, List.replicate_zero, List.cons_append, List.nil_append])
          (have ww1 := hk'; have ww2 := h1; have ww3 := hn1; have ww4 := hn2; have ww5 := @ofA.eq_1; have ww6 := hku; have cc1 := fun z1 z2 => ROf_run z1 z2; refine wk ?_; clear ww1 ww2 ww3 ww4 ww5 ww6 cc1; (repeat' first | exact True.intro | refine Lf.mk ?_ ?_); all_goals intro hP)
          (refine resX ?_; try exact True.intro)
          simp [leafS, h1, hn1, hn2, hku, ansU]
        | some u =>
          (refine ARun.intro Try.func97 rfl Try.call97 Try.ntmps97 Try.results97 ?_; simp only [List.length_cons, List.length_nil, List.length_map, Nat.reduceAdd, Nat.reduceSub, List.replicate_succ, List.replicate_zero, List.cons_append, List.nil_append])
          (have ww1 := hk'; have ww2 := h1; have ww3 := hn1; have ww4 := hn2; have ww5 := @ofA.eq_1; have ww6 := hku; have cc1 := fun z1 z2 => ROf_run z1 z2; refine wk ?_; clear ww1 ww2 ww3 ww4 ww5 ww6 cc1; (repeat' first | exact True.intro | refine Lf.mk ?_ ?_); all_goals intro hP)
          (refine resX ?_; try exact True.intro)
          simp [leafS, h1, hn1, hn2, hku, ansU]
      · (refine ARun.intro Try.func97 rfl Try.call97 Try.ntmps97 Try.results97 ?_; simp only [List.length_cons, List.length_nil, List.length_map, Nat.reduceAdd, Nat.reduceSub, List.replicate_succ, List.replicate_zero, List.cons_append, List.nil_append])
        have hof : ofA (-1) = .tup [.ag [.i 0, .i 0, .i 0], .i 9] := rfl
        repeat' (first | refine awp_seq ?_ | refine awp_block ?_ | refine awp_scope ?_ | ((first | refine awp_region_k fun Kn Kp hn hp => ?_ | refine oge_intro (by assumption) ?_ | (show AWE _ _ _ _ _ _ _ _ _; first | refine awe_intro (ROf_run _ _) ?_) | (show AWSF _ _ _ _ _ _ _ _ _ _ _; first | refine awsf_intro (ROf_run _ _) (fun hrun => ?_)) | (show OGE _ _ _ _ _ _ _; first | refine oge_intro (ROf_run _ _) ?_) | (show AWSE _ _ _ _ _ _ _ _ _ _ _; first | refine awse_intro (ROf_run _ _) (fun hrun => ?_)) | (show PGE _ _ _ _ _; first | refine pge_intro (ROf_run _ _) (fun tm' => ?_))) <;> (simp only [go_sem, Nat.reduceAdd, Nat.reduceSub, Nat.reduceMul, Nat.reduceLeDiff, Nat.reduceLT, Nat.reduceEqDiff, Int.reduceToNat, Int.reduceAdd, Int.reduceMul, Int.reduceSub, Int.reduceLT, Int.reduceLE, Int.reduceEq, Int.reduceNeg, Int.reduceBEq, Int.reduceBNe, ↓reduceIte, reduceCtorEq, hk', h1, hof] <;> try simp (disch := omega) only [wrap_of])) | (refine hn _ _ ?_; clear hn hp Kn Kp) | (refine hp _ _ _ ?_; clear hn hp Kn Kp) | (refine awp_cond rfl (fun hb => ?_) (fun hb => ?_) <;> (try simp only [decide_eq_true_eq, decide_eq_false_iff_not, Bool.not_eq_true', Bool.not_eq_false', Bool.true_eq_false, Bool.false_eq_true, beq_iff_eq, bne_iff_ne, bne_eq_false_iff_eq, beq_eq_false_iff_ne, gt_iff_lt, ge_iff_le, Int.reduceEq, Int.reduceNe, Int.reduceLT, Int.reduceLE, ne_eq, not_true_eq_false, not_false_eq_true] at hb)) | ((first | refine awg_split (fun hb => ?_) (fun hb => ?_) | refine awsg_split (fun hb => ?_) (fun hb => ?_)) <;> have hb0 := hb <;> (try simp only [decide_eq_true_eq, decide_eq_false_iff_not, Bool.not_eq_true', Bool.not_eq_false', Bool.true_eq_false, Bool.false_eq_true, beq_iff_eq, bne_iff_ne, bne_eq_false_iff_eq, beq_eq_false_iff_ne, gt_iff_lt, ge_iff_le, Int.reduceEq, Int.reduceNe, Int.reduceLT, Int.reduceLE, ne_eq, not_true_eq_false, not_false_eq_true] at hb0) <;> (try simp only [beq_true, beq_false, Bool.not_eq_true', Bool.not_eq_false'] at hb) <;> (simp only [go_sem, Nat.reduceAdd, Nat.reduceSub, Nat.reduceMul, Nat.reduceLeDiff, Nat.reduceLT, Nat.reduceEqDiff, Int.reduceToNat, Int.reduceAdd, Int.reduceMul, Int.reduceSub, Int.reduceLT, Int.reduceLE, Int.reduceEq, Int.reduceNeg, Int.reduceBEq, Int.reduceBNe, ↓reduceIte, reduceCtorEq, hk', h1, hof, hb, hb0] <;> try simp (disch := omega) only [wrap_of])) | (refine And.intro ?_ ?_) | refine awp_skip ?_ | refine awp_ret ?_ | refine awp_exit ?_ | refine awp_label ?_ | refine awloop_step ?_ | fail)
        all_goals first
          | omega
          | ((refine resX ?_; try exact True.intro)
             simp [leafS, h1, hq, ansU])
    · have h1' : (e.op == 1) = false := by simpa using h1
      by_cases h2 : e.op = 2
      · by_cases hq : 0 ≤ e.n
        · cases hv : l[e.n.toNat]? with
          | none =>
            have hlt : ¬ e.n < l.length := by rw [List.getElem?_eq_none_iff] at hv; omega
            have hu := hg e.n.toNat
            rw [hv] at hu
            have hof : ofA (-1) = .tup [.ag [.i 0, .i 0, .i 0], .i 9] := rfl
            (refine ARun.intro Try.func97 rfl Try.call97 Try.ntmps97 Try.results97 ?_; simp only [List.length_cons, List.length_nil, List.length_map, Nat.reduceAdd, Nat.reduceSub, List.replicate_succ, List.replicate_zero, List.cons_append, List.nil_append])
            (have ww1 := hk'; have ww2 := h2; have ww3 := h1'; have ww4 := hq; have ww5 := hlt; have ww6 := hof; have cc1 := fun z1 z2 => ROf_run z1 z2; refine wk ?_; clear ww1 ww2 ww3 ww4 ww5 ww6 cc1; (repeat' first | exact True.intro | refine Lf.mk ?_ ?_); all_goals intro hP)
            (refine resX ?_; try exact True.intro)
            simp [leafS, h2, hq, hu, ansU]
          | some v =>
            have hlt : e.n < l.length := by have := (List.getElem?_eq_some_iff.1 hv).1; omega
            have hu := hg e.n.toNat
            rw [hv] at hu
            simp only [Option.bind_some] at hu
            cases hku : ofK v.unit with
            | none =>
              (refine ARun.intro Try.func97 rfl Try.call97 Try.ntmps97 Try.results97 ?_; simp only [List.length_cons, List.length_nil, List.length_map, Nat.reduceAdd, Nat.reduceSub, List.replicate_succ, List.replicate_zero, List.cons_append, List.nil_append])
              (have ww1 := hk'; have ww2 := h2; have ww3 := h1'; have ww4 := hq; have ww5 := hlt; have ww6 := hv; have ww7 := @encV_eq; have ww8 := @ofA.eq_1; have ww9 := hku; have cc1 := fun z1 z2 => ROf_run z1 z2; refine wk ?_; clear ww1 ww2 ww3 ww4 ww5 ww6 ww7 ww8 ww9 cc1; (repeat' first | exact True.intro | refine Lf.mk ?_ ?_); all_goals intro hP)
              (refine resX ?_; try exact True.intro)
              simp [leafS, h2, hq, hu, hku, ansU]
            | some u =>
              (refine ARun.intro Try.func97 rfl Try.call97 Try.ntmps97 Try.results97 ?_; simp only [List.length_cons, List.length_nil, List.length_map, Nat.reduceAdd, Nat.reduceSub, List.replicate_succ, List.replicate_zero, List.cons_append, List.nil_append])
              (have ww1 := hk'; have ww2 := h2; have ww3 := h1'; have ww4 := hq; have ww5 := hlt; have ww6 := hv; have ww7 := @encV_eq; have ww8 := @ofA.eq_1; have ww9 := hku; have cc1 := fun z1 z2 => ROf_run z1 z2; refine wk ?_; clear ww1 ww2 ww3 ww4 ww5 ww6 ww7 ww8 ww9 cc1; (repeat' first | exact True.intro | refine Lf.mk ?_ ?_); all_goals intro hP)
              (refine resX ?_; try exact True.intro)
              simp [leafS, h2, hq, hu, hku, ansU]
        · (refine ARun.intro Try.func97 rfl Try.call97 Try.ntmps97 Try.results97 ?_; simp only [List.length_cons, List.length_nil, List.length_map, Nat.reduceAdd, Nat.reduceSub, List.replicate_succ, List.replicate_zero, List.cons_append, List.nil_append])
          have hof : ofA (-1) = .tup [.ag [.i 0, .i 0, .i 0], .i 9] := rfl
          (have ww1 := hk'; have ww2 := h2; have ww3 := h1'; have ww4 := hq; have ww5 := hof; have cc1 := fun z1 z2 => ROf_run z1 z2; refine wk ?_; clear ww1 ww2 ww3 ww4 ww5 cc1; (repeat' first | exact True.intro | refine Lf.mk ?_ ?_); all_goals intro hP)
          (refine resX ?_; try exact True.intro)
          simp [leafS, h2, hq, ansU]
      · have h2' : (e.op == 2) = false := by simpa using h2
        have hof : ofA (-1) = .tup [.ag [.i 0, .i 0, .i 0], .i 9] := rfl
        by_cases h3 : e.op = 3
        · by_cases hq : e.n = 0 ∨ e.n = 1 ∨ e.n = 2 ∨ e.n = 3
          · rcases hq with hc | hc | hc | hc
            all_goals
              simp only [leafS, h3, hc, Int.reduceEq, if_true, if_false, true_or, or_true, or_false, false_or, ansU]
              (refine ARun.intro Try.func97 rfl Try.call97 Try.ntmps97 Try.results97 ?_; simp only [List.length_cons, List.length_nil, List.length_map, Nat.reduceAdd, Nat.reduceSub, List.replicate_succ, List.replicate_zero, List.cons_append, List.nil_append])
              (have ww1 := hk'; have ww2 := h3; have ww3 := hc; have ww4 := @ofA.eq_1; have ww5 := @ofK.eq_1; have cc1 := fun z1 z2 => ROf_run z1 z2; refine wk ?_; clear ww1 ww2 ww3 ww4 ww5 cc1; (repeat' first | exact True.intro | refine Lf.mk ?_ ?_); all_goals intro hP)
              (refine resX ?_; try exact True.intro)
          · have q0 : (e.n == 0) = false := by simp; omega
            have q1 : (e.n == 1) = false := by simp; omega
            have q2 : (e.n == 2) = false := by simp; omega
            have q3 : (e.n == 3) = false := by simp; omega
            (refine ARun.intro Try.func97 rfl Try.call97 Try.ntmps97 Try.results97 ?_; simp only [List.length_cons, List.length_nil, List.length_map, Nat.reduceAdd, Nat.reduceSub, List.replicate_succ, List.replicate_zero, List.cons_append, List.nil_append])
            (have ww1 := hk'; have ww2 := h3; have ww3 := q0; have ww4 := q1; have ww5 := q2; have ww6 := q3; have ww7 := hof; have cc1 := fun z1 z2 => ROf_run z1 z2; refine wk ?_; clear ww1 ww2 ww3 ww4 ww5 ww6 ww7 cc1; (repeat' first | exact True.intro | refine Lf.mk ?_ ?_); all_goals intro hP)
            (refine resX ?_; try exact True.intro)
            simp only [leafS, h3, if_true, Int.reduceEq, if_false]
            rw [if_neg (by omega), if_neg (by omega), if_neg (by omega)]
            rfl
        · have h3' : (e.op == 3) = false := by simpa using h3
          (refine ARun.intro Try.func97 rfl Try.call97 Try.ntmps97 Try.results97 ?_; simp only [List.length_cons, List.length_nil, List.length_map, Nat.reduceAdd, Nat.reduceSub, List.replicate_succ, List.replicate_zero, List.cons_append, List.nil_append])
          (have ww1 := hk'; have ww2 := h1'; have ww3 := h2'; have ww4 := h3'; have ww5 := hof; have cc1 := fun z1 z2 => ROf_run z1 z2; refine wk ?_; clear ww1 ww2 ww3 ww4 ww5 cc1; (repeat' first | exact True.intro | refine Lf.mk ?_ ?_); all_goals intro hP)
          (refine resX ?_; try exact True.intro)
          simp [leafS, h1, h2, h3, ansU]
end Go.Proofs.Ytiifbdkedainnaa.Y

set_option maxHeartbeats 8000000
set_option maxRecDepth 20000
set_option linter.unusedVariables false
set_option linter.unusedSimpArgs false
namespace Go.Proofs.Ytiifbdkedainnaa.Y
open Go.Proofs.Ytiifbdkedainnaa.AL Go.Proofs Go
attribute [local irreducible] AWP AWL AWG AWR AWE AWX AWO AWSeq AWSG AWSR AWSO AWSE AWSF GoodP OGW OGR OGE OGX PGW PGR PGE Wk AWLoop AWPD AWLD

theorem Rleaf0 {l : List Vr} {us : List Un} (hks : ksL l = some us) (e : Ex) (x : Except Int Un) (hx : leafR us e = x) (H0 : List AObj) : ARun Try.prog 97 [.rs 5 (l.map encV), .ag (cE e)] H0 (.ret (ansU x) H0) := by
  subst hx; exact Rleaf_run l us hks e H0
def uz : Un := ⟨0, 0, 0⟩
def u0 (acc : List Un) : Un := acc[0]?.getD uz
def u1 (acc : List Un) : Un := acc[1]?.getD uz
theorem u0_snoc {acc : List Un} {x : Un} : u0 (acc ++ [x]) = if acc.length = 0 then x else u0 acc := by
  cases acc <;> simp [u0]
theorem u1_snoc {acc : List Un} {x : Un} : u1 (acc ++ [x]) = if acc.length = 1 then x else u1 acc := by
  rcases acc with _ | ⟨a, _ | ⟨b, r⟩⟩ <;> simp [u1]
theorem infL_len {us : List Un} : ∀ {l : List Ex} {r : List Un}, infL us l = .ok r → r.length = l.length
  | [], r, h => by simp only [infL, Except.ok.injEq] at h; subst h; rfl
  | e :: es, r, h => by
    simp only [infL] at h
    split at h
    · cases h
    · split at h
      · cases h
      · rename_i ys hys
        simp only [Except.ok.injEq] at h
        subst h
        simp [infL_len hys]
abbrev fitB (n : Int) : Bool := decide (-4 ≤ n ∧ n ≤ 4)
theorem ok_fit (u : Un) : u.ok ↔ (fitB u.p = true ∧ fitB u.b = true ∧ fitB u.t = true) := by
  simp only [Un.ok, fitB, decide_eq_true_eq]; omega

theorem Rexpr_run (l : List Vr) (us : List Un) (hks : ksL l = some us) (e : Ex) : ∀ (H0 : List AObj), ARun Try.prog 90 [.rs 5 (l.map encV), .ag (cE e)] H0 (.ret (ansU (inf us e)) H0) := by
  have hus := ksL_ok hks
  induction e using Ex.ind with
  | h e ih =>
    intro H0
    (refine ARun.intro Try.func90 rfl Try.call90 Try.ntmps90 Try.results90 ?_; simp only [List.length_cons, List.length_nil, List.length_map, Nat.reduceAdd, Nat.reduceSub, List.replicate_succ, List.replicate_zero, List.cons_append, List.nil_append])
    refine awp_len_agg 1 3 rfl rfl fun hlen => ?_
    rw [List.length_map] at hlen
    (refine wk ?_; (repeat' first | exact True.intro | refine Lf.mk ?_ ?_); all_goals intro hP)
    refine awp_loop_ind (σ := Nat × List Un) (fun s => e.kids.length - s.1)
      (fun s => s.2.length = s.1 ∧ s.1 ≤ e.kids.length ∧ (∀ u ∈ s.2, u.ok) ∧ infL us e.kids = match infL us (e.kids.drop s.1) with | .ok r => .ok (s.2 ++ r) | .error x => .error x)
      (fun s => (.rs 5 (l.map encV) :: .any :: .any :: .p H0.length 0 :: .p (H0.length + 1) 0 :: .any :: .p (H0.length + 2) 0 :: .i s.1 :: .any :: .any :: .any :: .any :: .any :: .any :: .any :: .any :: .any :: .any :: .any :: .any :: .any :: .any :: .any :: .any :: .any :: .any :: .any :: .any :: .any :: .any :: .any :: .any :: .any :: .any :: .any :: .any :: .any :: .any :: .any :: .any :: .any :: .any :: .any :: .any :: .any :: .any :: .any :: .any :: .any :: .any :: .any :: .any :: .any :: .any :: .any :: .any :: .any :: .any :: .any :: .any :: .any :: .any :: .any :: .any :: .any :: .any :: .any :: .any :: .any :: .any :: .any :: .any :: .any :: .any :: .any :: .any :: .any :: .any :: .any :: .any :: .any :: .any :: .any :: .any :: .any :: .any :: .any :: .any :: .any :: .any :: .any :: .any :: .any :: .any :: .any :: .any :: .any :: .any :: .any :: .any :: .any :: .any :: .any :: .any :: .any :: .any :: .any :: .any :: .any :: .any :: .any :: .any :: .any :: .any :: .any :: .any :: .any :: .any :: .any :: .any :: .any :: .any :: .any :: .any :: .any :: .any :: .any :: .any :: .any :: .any :: .any :: .any :: .any :: .any :: .any :: .any :: .any :: .any :: .any :: .any :: .any :: .any :: .any :: .any :: .any :: .any :: .any :: .any :: .any :: .any :: .any :: .any :: .any :: []))
      (fun s => H0 ++ [.cells 71 [.i e.op, .i e.n, .i e.unit, .rs 4 (e.kids.map encE)], .cells 107 [.i 0, .i 0, .i 0], .cells 139 [.i (u0 s.2).p, .i (u0 s.2).b, .i (u0 s.2).t, .i (u1 s.2).p, .i (u1 s.2).b, .i (u1 s.2).t]]) (0, [])
      ⟨rfl, Nat.zero_le _, by simp, by simp only [List.drop_zero, List.nil_append]; cases infL us e.kids <;> rfl⟩
      (by (refine fgtX ?_; try exact True.intro)) ?_
    rintro ⟨i, acc⟩ ⟨h1, h2, h3, h4⟩
    simp only at h1 h2 h3 h4 ⊢
    cases hr : e.kids.drop i with
    | nil =>
      have hlt := drop_nil hr
      rw [hr] at h4
      simp only [infL, List.append_nil] at h4
      have hinf : inf us e = node us e.op e.n e.unit acc := by rw [inf_eq, h4]
      have hkl : e.kids.length = acc.length := by
        have := infL_len h4; omega
      rw [hinf]
      by_cases hop : e.op = 1 ∨ e.op = 2 ∨ e.op = 3
      · have hlf : leafR us e = node us e.op e.n e.unit acc := by
          unfold leafR
          rw [hkl]
          rcases acc with _ | ⟨a, _ | ⟨b, _ | ⟨c, rs⟩⟩⟩
          · simp [node]
          · simp [node]
          · simp only [node, List.length_cons, List.length_nil]
            rw [if_pos (by omega), if_neg (by omega)]
          · simp [node]
        have hlf := fun H0 => Rleaf0 hks e _ hlf H0
        have hc3 : (e.op == 1 || e.op == 2 || e.op == 3) = true := by
          rcases hop with h | h | h <;> simp [h]
        cases hnd : node us e.op e.n e.unit acc with
        | ok u =>
          simp only [hnd, ansU] at hlf
          repeat' (first | refine awp_seq ?_ | refine awp_block ?_ | refine awp_scope ?_ | ((first | refine awp_region_k fun Kn Kp hn hp => ?_ | refine oge_intro (by assumption) ?_ | (show AWE _ _ _ _ _ _ _ _ _; first | refine awe_intro (hlf _) ?_) | (show AWSF _ _ _ _ _ _ _ _ _ _ _; first | refine awsf_intro (hlf _) (fun hrun => ?_)) | (show OGE _ _ _ _ _ _ _; first | refine oge_intro (hlf _) ?_) | (show AWSE _ _ _ _ _ _ _ _ _ _ _; first | refine awse_intro (hlf _) (fun hrun => ?_)) | (show PGE _ _ _ _ _; first | refine pge_intro (hlf _) (fun tm' => ?_))) <;> (simp only [go_sem, Nat.reduceAdd, Nat.reduceSub, Nat.reduceMul, Nat.reduceLeDiff, Nat.reduceLT, Nat.reduceEqDiff, Int.reduceToNat, Int.reduceAdd, Int.reduceMul, Int.reduceSub, Int.reduceLT, Int.reduceLE, Int.reduceEq, Int.reduceNeg, Int.reduceBEq, Int.reduceBNe, ↓reduceIte, reduceCtorEq, hlt] <;> try simp (disch := omega) only [wrap_of])) | (refine hn _ _ ?_; clear hn hp Kn Kp) | (refine hp _ _ _ ?_; clear hn hp Kn Kp) | (refine awp_cond rfl (fun hb => ?_) (fun hb => ?_) <;> (try simp only [decide_eq_true_eq, decide_eq_false_iff_not, Bool.not_eq_true', Bool.not_eq_false', Bool.true_eq_false, Bool.false_eq_true, beq_iff_eq, bne_iff_ne, bne_eq_false_iff_eq, beq_eq_false_iff_ne, gt_iff_lt, ge_iff_le, Int.reduceEq, Int.reduceNe, Int.reduceLT, Int.reduceLE, ne_eq, not_true_eq_false, not_false_eq_true] at hb)) | ((first | refine awg_split (fun hb => ?_) (fun hb => ?_) | refine awsg_split (fun hb => ?_) (fun hb => ?_)) <;> have hb0 := hb <;> (try simp only [decide_eq_true_eq, decide_eq_false_iff_not, Bool.not_eq_true', Bool.not_eq_false', Bool.true_eq_false, Bool.false_eq_true, beq_iff_eq, bne_iff_ne, bne_eq_false_iff_eq, beq_eq_false_iff_ne, gt_iff_lt, ge_iff_le, Int.reduceEq, Int.reduceNe, Int.reduceLT, Int.reduceLE, ne_eq, not_true_eq_false, not_false_eq_true] at hb0) <;> (try simp only [beq_true, beq_false, Bool.not_eq_true', Bool.not_eq_false'] at hb) <;> (simp only [go_sem, Nat.reduceAdd, Nat.reduceSub, Nat.reduceMul, Nat.reduceLeDiff, Nat.reduceLT, Nat.reduceEqDiff, Int.reduceToNat, Int.reduceAdd, Int.reduceMul, Int.reduceSub, Int.reduceLT, Int.reduceLE, Int.reduceEq, Int.reduceNeg, Int.reduceBEq, Int.reduceBNe, ↓reduceIte, reduceCtorEq, hlt, hb] <;> try simp (disch := omega) only [wrap_of])) | (refine And.intro ?_ ?_) | refine awp_skip ?_ | refine awp_ret ?_ | refine awp_exit ?_ | refine awp_label ?_ | refine awloop_step ?_ | fail)
          all_goals first
            | omega
            | ((refine resX ?_; try exact True.intro))
        | error x =>
          simp only [hnd, ansU] at hlf
          repeat' (first | refine awp_seq ?_ | refine awp_block ?_ | refine awp_scope ?_ | ((first | refine awp_region_k fun Kn Kp hn hp => ?_ | refine oge_intro (by assumption) ?_ | (show AWE _ _ _ _ _ _ _ _ _; first | refine awe_intro (hlf _) ?_) | (show AWSF _ _ _ _ _ _ _ _ _ _ _; first | refine awsf_intro (hlf _) (fun hrun => ?_)) | (show OGE _ _ _ _ _ _ _; first | refine oge_intro (hlf _) ?_) | (show AWSE _ _ _ _ _ _ _ _ _ _ _; first | refine awse_intro (hlf _) (fun hrun => ?_)) | (show PGE _ _ _ _ _; first | refine pge_intro (hlf _) (fun tm' => ?_))) <;> (simp only [go_sem, Nat.reduceAdd, Nat.reduceSub, Nat.reduceMul, Nat.reduceLeDiff, Nat.reduceLT, Nat.reduceEqDiff, Int.reduceToNat, Int.reduceAdd, Int.reduceMul, Int.reduceSub, Int.reduceLT, Int.reduceLE, Int.reduceEq, Int.reduceNeg, Int.reduceBEq, Int.reduceBNe, ↓reduceIte, reduceCtorEq, hlt] <;> try simp (disch := omega) only [wrap_of])) | (refine hn _ _ ?_; clear hn hp Kn Kp) | (refine hp _ _ _ ?_; clear hn hp Kn Kp) | (refine awp_cond rfl (fun hb => ?_) (fun hb => ?_) <;> (try simp only [decide_eq_true_eq, decide_eq_false_iff_not, Bool.not_eq_true', Bool.not_eq_false', Bool.true_eq_false, Bool.false_eq_true, beq_iff_eq, bne_iff_ne, bne_eq_false_iff_eq, beq_eq_false_iff_ne, gt_iff_lt, ge_iff_le, Int.reduceEq, Int.reduceNe, Int.reduceLT, Int.reduceLE, ne_eq, not_true_eq_false, not_false_eq_true] at hb)) | ((first | refine awg_split (fun hb => ?_) (fun hb => ?_) | refine awsg_split (fun hb => ?_) (fun hb => ?_)) <;> have hb0 := hb <;> (try simp only [decide_eq_true_eq, decide_eq_false_iff_not, Bool.not_eq_true', Bool.not_eq_false', Bool.true_eq_false, Bool.false_eq_true, beq_iff_eq, bne_iff_ne, bne_eq_false_iff_eq, beq_eq_false_iff_ne, gt_iff_lt, ge_iff_le, Int.reduceEq, Int.reduceNe, Int.reduceLT, Int.reduceLE, ne_eq, not_true_eq_false, not_false_eq_true] at hb0) <;> (try simp only [beq_true, beq_false, Bool.not_eq_true', Bool.not_eq_false'] at hb) <;> (simp only [go_sem, Nat.reduceAdd, Nat.reduceSub, Nat.reduceMul, Nat.reduceLeDiff, Nat.reduceLT, Nat.reduceEqDiff, Int.reduceToNat, Int.reduceAdd, Int.reduceMul, Int.reduceSub, Int.reduceLT, Int.reduceLE, Int.reduceEq, Int.reduceNeg, Int.reduceBEq, Int.reduceBNe, ↓reduceIte, reduceCtorEq, hlt, hb] <;> try simp (disch := omega) only [wrap_of])) | (refine And.intro ?_ ?_) | refine awp_skip ?_ | refine awp_ret ?_ | refine awp_exit ?_ | refine awp_label ?_ | refine awloop_step ?_ | fail)
          all_goals first
            | omega
            | ((refine resX ?_; try exact True.intro))
      · have o1 : (e.op == 1) = false := by simp; omega
        have o2 : (e.op == 2) = false := by simp; omega
        have o3 : (e.op == 3) = false := by simp; omega
        by_cases hb2 : acc.length = 2 ∧ 4 ≤ e.op ∧ e.op ≤ 10
        · obtain ⟨ha, ho1, ho2⟩ := hb2
          obtain ⟨a, b, rfl⟩ : ∃ a b, acc = [a, b] := by
            match acc, ha with | [a, b], _ => exact ⟨a, b, rfl⟩
          have hk2 : ((e.kids.length : Int) != 2) = false := by rw [hkl]; rfl
          have g1 : ¬ e.op < 4 := by omega
          have g2 : ¬ 10 < e.op := by omega
          simp only [node, ho1, ho2, and_self, if_true, u0, u1, List.getElem?_cons_zero, List.getElem?_cons_succ, Option.getD_some]
          have oka := h3 a (by simp)
          have okb := h3 b (by simp)
          by_cases h6 : e.op = 6
          · have w1 : IntKind.i64.wrap (a.p + b.p) = a.p + b.p := wrap_of (by have := oka; have := okb; unfold Un.ok at *; omega) (by have := oka; have := okb; unfold Un.ok at *; omega)
            have w2 : IntKind.i64.wrap (a.b + b.b) = a.b + b.b := wrap_of (by have := oka; have := okb; unfold Un.ok at *; omega) (by have := oka; have := okb; unfold Un.ok at *; omega)
            have w3 : IntKind.i64.wrap (a.t + b.t) = a.t + b.t := wrap_of (by have := oka; have := okb; unfold Un.ok at *; omega) (by have := oka; have := okb; unfold Un.ok at *; omega)
            have hf := ok_fit (a.add b 1)
            simp only [Un.add, Int.one_mul] at hf
            simp only [comb, h6, if_true, Un.add, Int.one_mul]
            (have ww1 := hlt; have ww2 := hk2; have ww3 := h6; have ww4 := w1; have ww5 := w2; have ww6 := w3; have cc1 := fun z1 z2 => fits_run z1 z2; refine wk ?_; clear ww1 ww2 ww3 ww4 ww5 ww6 cc1; (repeat' first | exact True.intro | refine Lf.mk ?_ ?_); all_goals intro hP)
            all_goals
              (refine resX ?_; try exact True.intro)
              simp_all [ansU]
          · have h6' : (e.op == 6) = false := by simpa using h6
            by_cases h78 : e.op = 7 ∨ e.op = 8
            · have w1 : IntKind.i64.wrap (a.p - b.p) = a.p - b.p := wrap_of (by have := oka; have := okb; unfold Un.ok at *; omega) (by have := oka; have := okb; unfold Un.ok at *; omega)
              have w2 : IntKind.i64.wrap (a.b - b.b) = a.b - b.b := wrap_of (by have := oka; have := okb; unfold Un.ok at *; omega) (by have := oka; have := okb; unfold Un.ok at *; omega)
              have w3 : IntKind.i64.wrap (a.t - b.t) = a.t - b.t := wrap_of (by have := oka; have := okb; unfold Un.ok at *; omega) (by have := oka; have := okb; unfold Un.ok at *; omega)
              have hf := ok_fit (a.add b (-1))
              have hadd : a.add b (-1) = ⟨a.p - b.p, a.b - b.b, a.t - b.t⟩ := by
                simp only [Un.add, Un.mk.injEq]; omega
              rw [hadd] at hf
              simp only [comb, h6, h78, if_true, if_false]
              rw [hadd]
              repeat' (first | refine awp_seq ?_ | refine awp_block ?_ | refine awp_scope ?_ | ((first | refine awp_region_k fun Kn Kp hn hp => ?_ | refine oge_intro (by assumption) ?_ | (show AWE _ _ _ _ _ _ _ _ _; first | refine awe_intro (fits_run _ _) ?_) | (show AWSF _ _ _ _ _ _ _ _ _ _ _; first | refine awsf_intro (fits_run _ _) (fun hrun => ?_)) | (show OGE _ _ _ _ _ _ _; first | refine oge_intro (fits_run _ _) ?_) | (show AWSE _ _ _ _ _ _ _ _ _ _ _; first | refine awse_intro (fits_run _ _) (fun hrun => ?_)) | (show PGE _ _ _ _ _; first | refine pge_intro (fits_run _ _) (fun tm' => ?_))) <;> (simp only [go_sem, Nat.reduceAdd, Nat.reduceSub, Nat.reduceMul, Nat.reduceLeDiff, Nat.reduceLT, Nat.reduceEqDiff, Int.reduceToNat, Int.reduceAdd, Int.reduceMul, Int.reduceSub, Int.reduceLT, Int.reduceLE, Int.reduceEq, Int.reduceNeg, Int.reduceBEq, Int.reduceBNe, ↓reduceIte, reduceCtorEq, hlt, hk2, g1, g2, o1, o2, o3, h6', w1, w2, w3] <;> try simp (disch := omega) only [wrap_of])) | (refine hn _ _ ?_; clear hn hp Kn Kp) | (refine hp _ _ _ ?_; clear hn hp Kn Kp) | (refine awp_cond rfl (fun hb => ?_) (fun hb => ?_) <;> (try simp only [decide_eq_true_eq, decide_eq_false_iff_not, Bool.not_eq_true', Bool.not_eq_false', Bool.true_eq_false, Bool.false_eq_true, beq_iff_eq, bne_iff_ne, bne_eq_false_iff_eq, beq_eq_false_iff_ne, gt_iff_lt, ge_iff_le, Int.reduceEq, Int.reduceNe, Int.reduceLT, Int.reduceLE, ne_eq, not_true_eq_false, not_false_eq_true] at hb)) | ((first | refine awg_split (fun hb => ?_) (fun hb => ?_) | refine awsg_split (fun hb => ?_) (fun hb => ?_)) <;> have hb0 := hb <;> (try simp only [decide_eq_true_eq, decide_eq_false_iff_not, Bool.not_eq_true', Bool.not_eq_false', Bool.true_eq_false, Bool.false_eq_true, beq_iff_eq, bne_iff_ne, bne_eq_false_iff_eq, beq_eq_false_iff_ne, gt_iff_lt, ge_iff_le, Int.reduceEq, Int.reduceNe, Int.reduceLT, Int.reduceLE, ne_eq, not_true_eq_false, not_false_eq_true] at hb0) <;> (try simp only [beq_true, beq_false, Bool.not_eq_true', Bool.not_eq_false'] at hb) <;> (simp only [go_sem, Nat.reduceAdd, Nat.reduceSub, Nat.reduceMul, Nat.reduceLeDiff, Nat.reduceLT, Nat.reduceEqDiff, Int.reduceToNat, Int.reduceAdd, Int.reduceMul, Int.reduceSub, Int.reduceLT, Int.reduceLE, Int.reduceEq, Int.reduceNeg, Int.reduceBEq, Int.reduceBNe, ↓reduceIte, reduceCtorEq, hlt, hk2, g1, g2, o1, o2, o3, h6', w1, w2, w3, hb, hb0] <;> try simp (disch := omega) only [wrap_of])) | (refine And.intro ?_ ?_) | refine awp_skip ?_ | refine awp_ret ?_ | refine awp_exit ?_ | refine awp_label ?_ | refine awloop_step ?_ | fail)
              all_goals first
                | omega
                | ((refine resX ?_; try exact True.intro)
                   simp_all [ansU])
            · have h7 : (e.op == 7) = false := by simp; omega
              have h8 : (e.op == 8) = false := by simp; omega
              simp only [comb, h6, h78, if_false]
              have hE := eqU a b
              have hoka := (ok_fit a).1 oka
              by_cases hab : a = b
              · rw [decide_eq_true hab] at hE
                repeat' (first | refine awp_seq ?_ | refine awp_block ?_ | refine awp_scope ?_ | ((first | refine awp_region_k fun Kn Kp hn hp => ?_ | refine oge_intro (by assumption) ?_ | (show AWE _ _ _ _ _ _ _ _ _; first | refine awe_intro (fits_run _ _) ?_) | (show AWSF _ _ _ _ _ _ _ _ _ _ _; first | refine awsf_intro (fits_run _ _) (fun hrun => ?_)) | (show OGE _ _ _ _ _ _ _; first | refine oge_intro (fits_run _ _) ?_) | (show AWSE _ _ _ _ _ _ _ _ _ _ _; first | refine awse_intro (fits_run _ _) (fun hrun => ?_)) | (show PGE _ _ _ _ _; first | refine pge_intro (fits_run _ _) (fun tm' => ?_))) <;> (simp only [go_sem, Nat.reduceAdd, Nat.reduceSub, Nat.reduceMul, Nat.reduceLeDiff, Nat.reduceLT, Nat.reduceEqDiff, Int.reduceToNat, Int.reduceAdd, Int.reduceMul, Int.reduceSub, Int.reduceLT, Int.reduceLE, Int.reduceEq, Int.reduceNeg, Int.reduceBEq, Int.reduceBNe, ↓reduceIte, reduceCtorEq, hlt, hk2, g1, g2, o1, o2, o3, h6', h7, h8, eqs34, eqg34, hE, hoka.1, hoka.2.1, hoka.2.2] <;> try simp (disch := omega) only [wrap_of])) | (refine hn _ _ ?_; clear hn hp Kn Kp) | (refine hp _ _ _ ?_; clear hn hp Kn Kp) | (refine awp_cond rfl (fun hb => ?_) (fun hb => ?_) <;> (try simp only [decide_eq_true_eq, decide_eq_false_iff_not, Bool.not_eq_true', Bool.not_eq_false', Bool.true_eq_false, Bool.false_eq_true, beq_iff_eq, bne_iff_ne, bne_eq_false_iff_eq, beq_eq_false_iff_ne, gt_iff_lt, ge_iff_le, Int.reduceEq, Int.reduceNe, Int.reduceLT, Int.reduceLE, ne_eq, not_true_eq_false, not_false_eq_true] at hb)) | ((first | refine awg_split (fun hb => ?_) (fun hb => ?_) | refine awsg_split (fun hb => ?_) (fun hb => ?_)) <;> have hb0 := hb <;> (try simp only [decide_eq_true_eq, decide_eq_false_iff_not, Bool.not_eq_true', Bool.not_eq_false', Bool.true_eq_false, Bool.false_eq_true, beq_iff_eq, bne_iff_ne, bne_eq_false_iff_eq, beq_eq_false_iff_ne, gt_iff_lt, ge_iff_le, Int.reduceEq, Int.reduceNe, Int.reduceLT, Int.reduceLE, ne_eq, not_true_eq_false, not_false_eq_true] at hb0) <;> (try simp only [beq_true, beq_false, Bool.not_eq_true', Bool.not_eq_false'] at hb) <;> (simp only [go_sem, Nat.reduceAdd, Nat.reduceSub, Nat.reduceMul, Nat.reduceLeDiff, Nat.reduceLT, Nat.reduceEqDiff, Int.reduceToNat, Int.reduceAdd, Int.reduceMul, Int.reduceSub, Int.reduceLT, Int.reduceLE, Int.reduceEq, Int.reduceNeg, Int.reduceBEq, Int.reduceBNe, ↓reduceIte, reduceCtorEq, hlt, hk2, g1, g2, o1, o2, o3, h6', h7, h8, eqs34, eqg34, hE, hoka.1, hoka.2.1, hoka.2.2, hb, hb0] <;> try simp (disch := omega) only [wrap_of])) | (refine And.intro ?_ ?_) | refine awp_skip ?_ | refine awp_ret ?_ | refine awp_exit ?_ | refine awp_label ?_ | refine awloop_step ?_ | fail)
                all_goals
                  (refine resX ?_; try exact True.intro)
                  simp [ansU, hab]
              · rw [decide_eq_false hab] at hE
                (have ww1 := hlt; have ww2 := hk2; have ww3 := g1; have ww4 := g2; have ww5 := o1; have ww6 := o2; have ww7 := o3; have ww8 := h6'; have ww9 := h7; have ww10 := h8; have ww11 := @eqs34; have ww12 := @eqg34; have ww13 := hE; have cc1 := fun z1 z2 => fits_run z1 z2; refine wk ?_; clear ww1 ww2 ww3 ww4 ww5 ww6 ww7 ww8 ww9 ww10 ww11 ww12 ww13 cc1; (repeat' first | exact True.intro | refine Lf.mk ?_ ?_); all_goals intro hP)
                all_goals
                  (refine resX ?_; try exact True.intro)
                  simp [ansU, hab]
        · have hnd : node us e.op e.n e.unit acc = .error 1 := by
            rcases acc with _ | ⟨a, _ | ⟨b, _ | ⟨c, rs⟩⟩⟩
            · simp only [node, leafS]
              rw [if_neg (by omega), if_neg (by omega), if_neg (by omega)]
            · simp [node]
            · simp only [node]
              rw [if_neg (by simpa using hb2)]
            · simp [node]
          rw [hnd]
          repeat' (first | refine awp_seq ?_ | refine awp_block ?_ | refine awp_scope ?_ | ((first | refine awp_region_k fun Kn Kp hn hp => ?_ | refine oge_intro (by assumption) ?_) <;> (simp only [go_sem, Nat.reduceAdd, Nat.reduceSub, Nat.reduceMul, Nat.reduceLeDiff, Nat.reduceLT, Nat.reduceEqDiff, Int.reduceToNat, Int.reduceAdd, Int.reduceMul, Int.reduceSub, Int.reduceLT, Int.reduceLE, Int.reduceEq, Int.reduceNeg, Int.reduceBEq, Int.reduceBNe, ↓reduceIte, reduceCtorEq, hlt, o1, o2, o3] <;> try simp (disch := omega) only [wrap_of])) | (refine hn _ _ ?_; clear hn hp Kn Kp) | (refine hp _ _ _ ?_; clear hn hp Kn Kp) | (refine awp_cond rfl (fun hb => ?_) (fun hb => ?_) <;> (try simp only [decide_eq_true_eq, decide_eq_false_iff_not, Bool.not_eq_true', Bool.not_eq_false', Bool.true_eq_false, Bool.false_eq_true, beq_iff_eq, bne_iff_ne, bne_eq_false_iff_eq, beq_eq_false_iff_ne, gt_iff_lt, ge_iff_le, Int.reduceEq, Int.reduceNe, Int.reduceLT, Int.reduceLE, ne_eq, not_true_eq_false, not_false_eq_true] at hb)) | ((first | refine awg_split (fun hb => ?_) (fun hb => ?_) | refine awsg_split (fun hb => ?_) (fun hb => ?_)) <;> have hb0 := hb <;> (try simp only [decide_eq_true_eq, decide_eq_false_iff_not, Bool.not_eq_true', Bool.not_eq_false', Bool.true_eq_false, Bool.false_eq_true, beq_iff_eq, bne_iff_ne, bne_eq_false_iff_eq, beq_eq_false_iff_ne, gt_iff_lt, ge_iff_le, Int.reduceEq, Int.reduceNe, Int.reduceLT, Int.reduceLE, ne_eq, not_true_eq_false, not_false_eq_true] at hb0) <;> (try simp only [beq_true, beq_false, Bool.not_eq_true', Bool.not_eq_false'] at hb) <;> (simp only [go_sem, Nat.reduceAdd, Nat.reduceSub, Nat.reduceMul, Nat.reduceLeDiff, Nat.reduceLT, Nat.reduceEqDiff, Int.reduceToNat, Int.reduceAdd, Int.reduceMul, Int.reduceSub, Int.reduceLT, Int.reduceLE, Int.reduceEq, Int.reduceNeg, Int.reduceBEq, Int.reduceBNe, ↓reduceIte, reduceCtorEq, hlt, o1, o2, o3, hb, hb0] <;> try simp (disch := omega) only [wrap_of])) | (refine And.intro ?_ ?_) | refine awp_skip ?_ | refine awp_ret ?_ | refine awp_exit ?_ | refine awp_label ?_ | refine awloop_step ?_ | fail)
          all_goals first
            | omega
            | ((refine resX ?_; try exact True.intro))
    | cons k rest =>
      obtain ⟨hk, hlt, hd, hm⟩ := drop_cons hr
      rw [hr] at h4
      simp only [infL] at h4
      have hih := fun H0 => ih k hm H0
      cases hik : inf us k with
      | error x =>
        have hx := inf_err us k x hik
        have hx0 : (x != 0) = true := by simp; omega
        simp only [hik] at h4
        have hinf : inf us e = .error x := by rw [inf_eq, h4]
        rw [hinf]
        simp only [hik, ansU] at hih
        (have ww1 := hlt; have ww2 := hk; have ww3 := @encE_eq; have ww4 := hx0; have cc1 := fun z1 => hih z1; refine wk ?_; clear ww1 ww2 ww3 ww4 cc1; (repeat' first | exact True.intro | refine Lf.mk ?_ ?_); all_goals intro hP)
        (refine resX ?_; try exact True.intro)
        all_goals simp [ansU]
      | ok u =>
        simp only [hik] at h4
        simp only [hik, ansU] at hih
        have hu := inf_ok us hus k u hik
        by_cases hi2 : i < 2
        · have hi2' : (i : Int) < 2 := by omega
          have hc : i = 0 ∨ i = 1 := by omega
          rcases hc with rfl | rfl
          all_goals
            simp only [Int.cast_ofNat_Int, Int.natCast_zero, Int.natCast_one] at hlt hi2'
            (have ww1 := hlt; have ww2 := hk; have ww3 := @encE_eq; have ww4 := hi2'; have cc1 := fun z1 => hih z1; refine wk ?_; clear ww1 ww2 ww3 ww4 cc1; (repeat' first | exact True.intro | refine Lf.mk ?_ ?_); all_goals intro hP)
            first
              | refine ⟨(0 + 1, acc ++ [u]), by simp only; omega, ⟨(by simp only [List.length_append, List.length_cons, List.length_nil]; omega), by simp only; omega, ?_, ?_⟩, ?_⟩
              | refine ⟨(1 + 1, acc ++ [u]), by simp only; omega, ⟨(by simp only [List.length_append, List.length_cons, List.length_nil]; omega), by simp only; omega, ?_, ?_⟩, ?_⟩
            · intro v hv
              rcases List.mem_append.1 hv with hv | hv
              · exact h3 v hv
              · simp only [List.mem_cons, List.not_mem_nil, or_false] at hv; subst hv; exact hu
            · simp only
              rw [hd, h4]
              cases infL us rest <;> simp
            · refine Wk.keepE 3 1 ?_ ?_ ?_ ?_
              · simp [u0_snoc, u1_snoc, h1]
              · simp
              · simp [AObj.under, AV.under]
              · simp only [List.map_cons, List.map_nil, AV.low, Fgt, true_or, or_true, and_true, true_and]
                simp
        · have hi2' : ¬ (i : Int) < 2 := by omega
          (have ww1 := hlt; have ww2 := hk; have ww3 := @encE_eq; have ww4 := hi2'; have cc1 := fun z1 => hih z1; refine wk ?_; clear ww1 ww2 ww3 ww4 cc1; (repeat' first | exact True.intro | refine Lf.mk ?_ ?_); all_goals intro hP)
          refine ⟨(i + 1, acc ++ [u]), by simp only; omega, ⟨by simp [h1], by simp only; omega, ?_, ?_⟩, ?_⟩
          · intro v hv
            rcases List.mem_append.1 hv with hv | hv
            · exact h3 v hv
            · simp only [List.mem_cons, List.not_mem_nil, or_false] at hv; subst hv; exact hu
          · simp only
            rw [hd, h4]
            cases infL us rest <;> simp
          · refine Wk.keepE 3 1 ?_ ?_ ?_ ?_
            · have n0 : ¬ i = 0 := by omega
              have n1 : ¬ i = 1 := by omega
              simp [u0_snoc, u1_snoc, h1, n0, n1]
            · simp
            · simp [AObj.under, AV.under]
            · simp only [List.map_cons, List.map_nil, AV.low, Fgt, true_or, or_true, and_true, true_and]
              simp [wrap_of (n := (i : Int) + 1) (by omega) (by omega)]
end Go.Proofs.Ytiifbdkedainnaa.Y

set_option maxHeartbeats 8000000
set_option maxRecDepth 20000
set_option linter.unusedVariables false
set_option linter.unusedSimpArgs false
namespace Go.Proofs.Ytiifbdkedainnaa.Y
open Go.Proofs.Ytiifbdkedainnaa.AL Go.Proofs Go
attribute [local irreducible] AWP AWL AWG AWR AWE AWX AWO AWSeq AWSG AWSR AWSO AWSE AWSF GoodP OGW OGR OGE OGX PGW PGR PGE Wk AWLoop AWPD AWLD

def varsB (l : List Vr) : Bool := match ksL l with
  | some _ => decide ((l.length : Int) ≤ 12)
  | none => false
theorem RVars_run (l : List Vr) (hl : l.length ≤ 1100000) (H0 : List AObj) : ARun Try.prog 58 [.rs 5 (l.map encV)] H0 (.ret (.b (varsB l)) H0) := by
  (refine ARun.intro Try.func58 rfl Try.call58 Try.ntmps58 Try.results58 ?_; simp only [List.length_cons, List.length_nil, List.length_map, Nat.reduceAdd, Nat.reduceSub, List.replicate_succ, List.replicate_zero, List.cons_append, List.nil_append])
  (refine wk ?_; (repeat' first | exact True.intro | refine Lf.mk ?_ ?_); all_goals intro hP)
  refine awp_loop_ind (σ := Nat) (fun s => l.length - s) (fun s => s ≤ l.length ∧ (ksL l).isSome = (ksL (l.drop s)).isSome)
    (fun s => (.rs 5 (l.map encV) :: .any :: .any :: .i s :: .any :: .any :: .any :: .any :: .any :: .any :: .any :: .any :: .any :: .any :: .any :: .any :: .any :: .any :: .any :: .any :: .any :: .any :: .any :: .any :: .any :: .any :: []))
    (fun s => H0) 0 ⟨Nat.zero_le _, by simp⟩ (by (refine fgtX ?_; try exact True.intro)) ?_
  rintro i ⟨h1, h4⟩
  cases hr : l.drop i with
  | nil =>
    have hlt := drop_nil hr
    rw [hr] at h4
    simp only [ksL, Option.isSome_some] at h4
    (have ww1 := hlt; refine wk ?_; clear ww1; (repeat' first | exact True.intro | refine Lf.mk ?_ ?_); all_goals intro hP)
    (refine resX ?_; try exact True.intro)
    unfold varsB
    cases hks : ksL l with
    | none => rw [hks] at h4; simp at h4
    | some us => simp
  | cons k rest =>
    obtain ⟨hk, hlt, hd, hm⟩ := drop_cons hr
    rw [hr] at h4
    cases hik : ofK k.unit with
    | none =>
      simp only [ksL, hik] at h4
      (have ww1 := hlt; have ww2 := hk; have ww3 := @encV_eq; have ww4 := @ofA.eq_1; have ww5 := hik; have cc1 := fun z1 z2 => ROf_run z1 z2; refine wk ?_; clear ww1 ww2 ww3 ww4 ww5 cc1; (repeat' first | exact True.intro | refine Lf.mk ?_ ?_); all_goals intro hP)
      (refine resX ?_; try exact True.intro)
      unfold varsB
      cases hks : ksL l with
      | none => simp
      | some us => rw [hks] at h4; simp at h4
    | some u =>
      simp only [ksL, hik] at h4
      (have ww1 := hlt; have ww2 := hk; have ww3 := @encV_eq; have ww4 := @ofA.eq_1; have ww5 := hik; have cc1 := fun z1 z2 => ROf_run z1 z2; refine wk ?_; clear ww1 ww2 ww3 ww4 ww5 cc1; (repeat' first | exact True.intro | refine Lf.mk ?_ ?_); all_goals intro hP)
      refine ⟨i + 1, by omega, ⟨by omega, ?_⟩, ?_⟩
      · rw [hd, h4]; cases ksL rest <;> rfl
      · (refine dropX ?_; try exact True.intro)
        simp [wrap_of (n := (i : Int) + 1) (by omega) (by omega)]
end Go.Proofs.Ytiifbdkedainnaa.Y

/- From the data that a row reads to plain Lean data; and a law's row out of what its walk says. -/
set_option linter.unusedVariables false
set_option linter.unusedSectionVars false
set_option linter.unusedSimpArgs false
namespace Go.Proofs.Ytiifbdkedainnaa.AL
variable [G : GTab]
open Go.ChangeShapes Go.WideShapes Go.RowKit

abbrev Old (w : World) : Nat → Prop := fun b => b < w.heap.size
/-- Cells told by pure values. -/
inductive PRelL (w : World) (S : Nat → Prop) : List PV → List Value → Prop
  | nil : PRelL w S [] []
  | cons {p v ps vs} (h : PRel w S p v) (t : PRelL w S ps vs) : PRelL w S (p :: ps) (v :: vs)

section
variable {w : World} {S : Nat → Prop}
theorem PRelL.append {ps qs : List PV} {vs us : List Value} (h : PRelL w S ps vs) (k : PRelL w S qs us) : PRelL w S (ps ++ qs) (vs ++ us) := by
  induction h with
  | nil => exact k
  | cons h t ih => exact .cons h ih
theorem PRelL.len {ps : List PV} {vs : List Value} (h : PRelL w S ps vs) : ps.length = vs.length := by
  induction h with
  | nil => rfl
  | cons h t ih => simp [ih]
theorem PRelL.get {ps : List PV} {vs : List Value} (h : PRelL w S ps vs) : ∀ (j : Nat) (p : PV), ps[j]? = some p → ∃ v, vs[j]? = some v ∧ PRel w S p v := by
  induction h with
  | nil => intro j p h; simp at h
  | cons h t ih =>
    intro j p hj
    cases j with
    | zero => simp at hj; subst hj; exact ⟨_, rfl, h⟩
    | succ j => simp at hj; exact ih j p hj
theorem PRelL.one {ps : List PV} {vs : List Value} (h : PRelL w S ps vs) : ∀ v ∈ vs, v.oneCell' = true := by
  induction h with
  | nil => simp
  | cons h t ih =>
    intro v hv
    rcases List.mem_cons.1 hv with rfl | hv
    · exact h.one
    · exact ih v hv
theorem PRelL.arel {B : BMap} {H : List AObj} {ps : List PV} {vs : List Value} (h : PRelL w S ps vs) : ARelL w B S H (ps.map AV.pv) vs := by
  induction h with
  | nil => exact ARelL.nil
  | cons h t ih => exact ARelL.cons (.pv h) ih
theorem PRelL.ag {B : BMap} {H : List AObj} {ps : List PV} {vs : Array Value} (h : PRelL w S ps vs.toList) : ARel w B S H (.ag ps) (.agg vs) := by
  have := h.arel (B := B) (H := H)
  have h2 := ARel.agg this.1 h.one this.2
  simpa using h2
end

/-- How much a datum bears, by whatever count. -/
structure Bulk (β : (H : Type) → DataW H → Nat) (βl : (H : Type) → List (DataW H) → Nat) : Prop where
  lit : ∀ H l, 1 ≤ β H (.lit l)
  str : ∀ H b, β H (.lit (.string b)) = b.length + 1
  nil : ∀ H, β H .nil = 1
  slice : ∀ H es sp, β H (.slice es sp) = βl H es + βl H sp + 1
  agg : ∀ H ps, β H (.agg ps) = βl H ps + 1
  lnil : ∀ H, βl H [] = 0
  lcons : ∀ H d l, βl H (d :: l) = β H d + βl H l

/-- Data of type t is read asx α, with fuel up to n: told by enc, of weight at most the datum's, with property p. -/
def Rd (P : Program) (β : (H : Type) → DataW H → Nat) (n : Nat) (t : TypeId) {α : Type} (enc : α → List PV) (μ : α → Nat) (p : α → Prop) : Prop :=
  ∀ {H : Type} {e : TypeId × Value → H} {w : World} {sp : Nat → Bool} {hd : Bool} {fuel : Nat} {cs : List Value} {x : DataW H × List MemPlace}, fuel ≤ n →
    DataW.trod e P w 0 sp hd fuel t cs = some x → (∀ q ∈ x.2, q.block < w.heap.size) → ∃ a, PRelL w (Old w) (enc a) cs ∧ μ a ≤ β H x.1 ∧ p a

section
variable {P : Program} {β : (H : Type) → DataW H → Nat} {βl : (H : Type) → List (DataW H) → Nat} {n : Nat} {t : TypeId}
theorem Rd.zero {α : Type} {enc : α → List PV} {μ : α → Nat} {p : α → Prop} : Rd P β 0 t enc μ p := by
  intro H e w sp hd fuel cs x hn h _
  cases fuel with
  | zero => unfold DataW.trod at h; cases h
  | succ k => omega
theorem Rd.int (hB : Bulk β βl) {k : IntKind} (ht : P.underlying t = some (.int k)) : Rd P β n t (fun m : Int => [.sc (.int k m)]) (fun _ => 1) (fun m => (Lit.int k m).wf = true) := by
  intro H e w sp hd fuel cs x hn h _
  obtain ⟨m, rfl, rfl, hw⟩ := DataW.trod_int ht h
  exact ⟨m, .cons (.sc rfl) .nil, hB.lit _ _, hw⟩
theorem Rd.bool (hB : Bulk β βl) (ht : P.underlying t = some .bool) : Rd P β n t (fun m : Bool => [.sc (.bool m)]) (fun _ => 1) (fun _ => True) := by
  intro H e w sp hd fuel cs x hn h _
  obtain ⟨m, rfl, rfl⟩ := DataW.trod_bool ht h
  exact ⟨m, .cons (.sc rfl) .nil, hB.lit _ _, trivial⟩
theorem Rd.str (hB : Bulk β βl) (ht : P.underlying t = some .string) : Rd P β n t (fun m : ByteArray => [.sc (.string m)]) (fun m => m.size + 1) (fun m => m.size ≤ maxLen) := by
  intro H e w sp hd fuel cs x hn h _
  obtain ⟨m, rfl, rfl, hm⟩ := DataW.trod_string ht h
  refine ⟨m, .cons (.sc rfl) .nil, ?_, hm⟩
  show m.size + 1 ≤ β H (.lit (.string m.data.toList))
  rw [hB.str, Array.length_toList]; exact Nat.le_refl _

theorem add_add' (a : Addr) (i j : Nat) : (a.add i).add j = a.add (i + j) := by
  cases a with
  | mk b o s =>
    by_cases hi : i = 0
    · subst hi; simp [Addr.add]
    · by_cases hj : j = 0
      · subst hj; simp [Addr.add]
      · simp [Addr.add, hi, hj, Nat.add_assoc]
theorem choice_list {α β : Type} {R : Nat → α → β → Prop} : ∀ (l : List β) (k : Nat), (∀ i y, l[i]? = some y → ∃ a, R (k + i) a y) → ∃ asx : List α, asx.length = l.length ∧ ∀ (i : Nat) (a : α) (y : β), asx[i]? = some a → l[i]? = some y → R (k + i) a y
  | [], k, _ => ⟨[], rfl, fun i a y h => by simp at h⟩
  | y :: l, k, h => by
    obtain ⟨a, ha⟩ := h 0 y rfl
    obtain ⟨asx, h1, h2⟩ := choice_list (R := R) l (k + 1) (fun i z hz => by
      obtain ⟨b, hb⟩ := h (i + 1) z (by simpa using hz)
      exact ⟨b, by rw [show k + 1 + i = k + (i + 1) by omega]; exact hb⟩)
    refine ⟨a :: asx, by simp [h1], fun i b z hi hz => ?_⟩
    cases i with
    | zero => simp at hi hz; subst hi; subst hz; exact ha
    | succ i => simp at hi hz; have := h2 i b z hi hz; rwa [show k + (i + 1) = k + 1 + i by omega]

/-- The weights of a list. -/
def sumM {α : Type} (μ : α → Nat) : List α → Nat
  | [] => 0
  | a :: l => μ a + sumM μ l

theorem sum_le (hB : Bulk β βl) {H : Type} {α : Type} {μ : α → Nat} : ∀ (asx : List α) (ds : List (DataW H)), asx.length = ds.length → (∀ (i : Nat) (a : α) (d : DataW H), asx[i]? = some a → ds[i]? = some d → μ a ≤ β H d) → sumM μ asx ≤ βl H ds
  | [], [], _, _ => by simp [sumM]
  | [], _ :: _, h, _ => by simp at h
  | _ :: _, [], h, _ => by simp at h
  | a :: asx, d :: ds, h, k => by
    have h1 := k 0 a d rfl rfl
    have h2 := sum_le hB asx ds (by simpa using h) (fun i a d hi hd => k (i + 1) a d (by simpa using hi) (by simpa using hd))
    rw [hB.lcons]
    simp only [sumM]; omega

theorem Rd.slice (hB : Bulk β βl) {e : TypeId} {sz : Nat} (ht : P.underlying t = some (.slice e)) (hsz : P.cellsOf e = sz) (h0 : 0 < sz) {α : Type} {enc : α → List PV} {μ : α → Nat} {p : α → Prop}
    (R : Rd P β n e enc μ p) (hlen : ∀ a, (enc a).length = sz) : Rd P β (n + 1) t (fun l : List α => [.rs sz (l.map enc)]) (fun l => sumM μ l + 1) (fun l => ∀ a ∈ l, p a) := by
  intro H E w sp hd fuel cs x hn h hlt
  rcases DataW.trod_slice ht h with ⟨rfl, rfl⟩ | ⟨a, len, cap, elems, rest, m, rfl, rfl, rfl, hb, hlc, hcm, hl, hel, _, _⟩
  · refine ⟨[], .cons (PRel.rs (rows := []) (fun _ _ => undef) (Nat.le_refl _) (Nat.zero_le _) h0 (fun _ => rfl) (by simp) (by simp) (by simp)) .nil, ?_, by simp⟩
    simp only [sumM]; rw [hB.nil]; omega
  · subst hl
    have one : ∀ i y, elems[i]? = some y → ∃ b : α, (∃ us : List Value, us.length = sz ∧ (∀ j u, us[j]? = some u → w.cell? ((a.add (i * sz)).add j) = some u) ∧ PRelL w (Old w) (enc b) us) ∧ μ b ≤ β H y.1 ∧ p b := by
      intro i y hy
      have hi := (List.getElem?_eq_some_iff.1 hy).1
      have h1 := hel i hi
      rw [hy, hsz] at h1
      simp only [Option.bind_eq_some_iff] at h1
      obtain ⟨us, hu, h2⟩ := h1
      obtain ⟨b, h3, h4, h5⟩ := R (by omega) h2 (fun q hq => hlt q (by
        simp only [List.mem_append, List.mem_flatMap]
        exact .inr ⟨y, .inl (List.mem_of_getElem? hy), hq⟩))
      obtain ⟨_, k1, k2⟩ := World.cells?_some hu
      refine ⟨b, ⟨us, k1, fun j u hj => ?_, h3⟩, h4, h5⟩
      have hj' := (List.getElem?_eq_some_iff.1 hj).1
      have := k2 j (by omega)
      rw [hj] at this
      exact this
    obtain ⟨asx, hal, ha⟩ := choice_list (R := fun i (b : α) (y : DataW H × List MemPlace) => (∃ us : List Value, us.length = sz ∧ (∀ j u, us[j]? = some u → w.cell? ((a.add (i * sz)).add j) = some u) ∧ PRelL w (Old w) (enc b) us) ∧ μ b ≤ β H y.1 ∧ p b) elems 0
      (fun i y hy => by simpa using one i y hy)
    have ablk : 0 < elems.length → a.block < w.heap.size := by
      intro h
      have : MemPlace.cell a.block a.off ∈ MemPlace.row a ((elems.length + rest.length) * P.cellsOf e) := by
        refine MemPlace.mem_row.2 ⟨0, ?_, rfl⟩
        rw [hsz]; exact Nat.mul_pos (by omega) h0
      exact hlt _ (List.mem_append.2 (.inl this))
    refine ⟨asx, ?_, ?_, ?_⟩
    · refine .cons ?_ .nil
      have hrow : ∀ (i : Nat) (r : List PV), (asx.map enc)[i]? = some r → ∃ (b : α) (y : DataW H × List MemPlace), asx[i]? = some b ∧ elems[i]? = some y ∧ r = enc b := by
        intro i r hr
        simp only [List.getElem?_map, Option.map_eq_some_iff] at hr
        obtain ⟨b, hb, rfl⟩ := hr
        have := (List.getElem?_eq_some_iff.1 hb).1
        exact ⟨b, elems[i], hb, List.getElem?_eq_getElem (by omega), rfl⟩
      have hkey : ∀ (i : Nat) (r : List PV) (j : Nat) (q : PV), (asx.map enc)[i]? = some r → r[j]? = some q → w.cell? (a.add (i * sz + j)) = some ((w.cell? (a.add (i * sz + j))).getD undef) ∧ a.block < w.heap.size ∧ PRel w (Old w) q ((w.cell? (a.add (i * sz + j))).getD undef) := by
        intro i r j q hr hq
        obtain ⟨b, y, hb, hy, rfl⟩ := hrow i r hr
        obtain ⟨⟨us, k1, k2, k3⟩, _, _⟩ := ha i b y hb hy
        obtain ⟨u, hu, hrel⟩ := k3.get j q hq
        have := k2 j u hu
        rw [Nat.zero_add] at this
        have e : (a.add (i * sz)).add j = a.add (i * sz + j) := add_add' a _ _
        rw [e] at this
        rw [this]
        exact ⟨rfl, ablk (by have := (List.getElem?_eq_some_iff.1 hy).1; omega), hrel⟩
      have hlr : (asx.map enc).length = elems.length := by simp [hal]
      rw [← hlr]
      refine PRel.rs (fun i j => (w.cell? (a.add (i * sz + j))).getD undef) (by rw [hlr]; omega) hcm h0 (by simp) ?_ ?_ ?_
      · intro r hr
        obtain ⟨b, _, rfl⟩ := List.mem_map.1 hr
        exact hlen b
      · intro i r j q hr hq
        have := hkey i r j q hr hq
        exact ⟨a, rfl, this.2.1, this.1⟩
      · intro i r j q hr hq
        exact (hkey i r j q hr hq).2.2
    · have := sum_le hB (H := H) (μ := μ) asx (elems.map (·.1)) (by simp [hal]) (fun i b d hb hd => by
        simp only [List.getElem?_map, Option.map_eq_some_iff] at hd
        obtain ⟨y, hy, rfl⟩ := hd
        exact (ha i b y hb hy).2.1)
      show sumM μ asx + 1 ≤ β H (.slice (elems.map (·.1)) (rest.map (·.1)))
      rw [hB.slice]; omega
    · intro b hb
      obtain ⟨i, hi⟩ := List.mem_iff_getElem?.1 hb
      have := (List.getElem?_eq_some_iff.1 hi).1
      exact (ha i b elems[i] hi (List.getElem?_eq_getElem (by omega))).2.2

theorem Rd.mono {α : Type} {enc : α → List PV} {μ : α → Nat} {p : α → Prop} (R : ∀ n, Rd P β n t enc μ p) {m : Nat} : Rd P β m t enc μ p := R m

/-- A struct, field by field. -/
theorem trod_fields (hB : Bulk β βl) {fs : Array Field} (ht : P.underlying t = some (.struct fs)) {H : Type} {e : TypeId × Value → H} {w : World} {sp : Nat → Bool} {hd : Bool} {fuel : Nat} {cs : List Value} {x : DataW H × List MemPlace}
    (hn : fuel ≤ n + 1) (h : DataW.trod e P w 0 sp hd fuel t cs = some x) (hlt : ∀ q ∈ x.2, q.block < w.heap.size) :
    ∃ (xs : List (DataW H × List MemPlace)) (m : Nat), m ≤ n ∧ cs.length = P.cellsOf t ∧ xs.length = fs.size ∧ βl H (xs.map (·.1)) + 1 = β H x.1 ∧
      (∀ (i : Nat) (f : Field), fs[i]? = some f → DataW.trod e P w 0 sp hd m f.type ((cs.drop f.offset).take (P.cellsOf f.type)) = xs[i]?) ∧ (∀ y ∈ xs, ∀ q ∈ y.2, q.block < w.heap.size) := by
  obtain ⟨xs, m, rfl, rfl, h1, h2, h3⟩ := DataW.trod_struct ht h
  refine ⟨xs, m, by omega, h1, h2, by rw [hB.agg], h3, fun y hy q hq => hlt q ?_⟩
  simp only [List.mem_flatMap]
  exact ⟨y, hy, hq⟩
theorem trod_items (hB : Bulk β βl) {k : Nat} {e' : TypeId} (ht : P.underlying t = some (.array k e')) {H : Type} {e : TypeId × Value → H} {w : World} {sp : Nat → Bool} {hd : Bool} {fuel : Nat} {cs : List Value} {x : DataW H × List MemPlace}
    (hn : fuel ≤ n + 1) (h : DataW.trod e P w 0 sp hd fuel t cs = some x) (hlt : ∀ q ∈ x.2, q.block < w.heap.size) :
    ∃ (xs : List (DataW H × List MemPlace)) (m : Nat), m ≤ n ∧ cs.length = P.cellsOf t ∧ xs.length = k ∧ βl H (xs.map (·.1)) + 1 = β H x.1 ∧
      (∀ (i : Nat), i < k → DataW.trod e P w 0 sp hd m e' ((cs.drop (i * P.cellsOf e')).take (P.cellsOf e')) = xs[i]?) ∧ (∀ y ∈ xs, ∀ q ∈ y.2, q.block < w.heap.size) := by
  obtain ⟨xs, m, rfl, rfl, h1, h2, h3⟩ := DataW.trod_array ht h
  refine ⟨xs, m, by omega, h1, h2, by rw [hB.agg], h3, fun y hy q hq => hlt q ?_⟩
  simp only [List.mem_flatMap]
  exact ⟨y, hy, hq⟩

theorem of_one {w : World} {S : Nat → Prop} {p : PV} {v : Value} (h : PRelL w S [p] [v]) : PRel w S p v := by cases h with | cons h t => exact h

/-! ### an argument -/
theorem Rd.arg {α : Type} {enc : α → List PV} {μ : α → Nat} {p : α → Prop} (R : ∀ n, Rd P β n t enc μ p) {H : Type} {e : TypeId × Value → H} {w : World} {sp : Nat → Bool} {hd : Bool} {v : Value} {d : DataW H} {ps : List MemPlace}
    (h : DataW.Trod e P w 0 sp hd t v d ps) (hlt : ∀ q ∈ ps, q.block < w.heap.size) : ∃ a, PRelL w (Old w) (enc a) v.cells.toList ∧ μ a ≤ β H d ∧ p a := by
  obtain ⟨fuel, hf⟩ := h
  obtain ⟨a, h1, h2, h3⟩ := R fuel (Nat.le_refl _) hf hlt
  exact ⟨a, h1, h2, h3⟩
theorem arg_one {w w0 : World} {B : BMap} {S : Nat → Prop} {H : List AObj} {p : PV} {v : Value} {r : Reach} {b : Nat} (h : PRelL w S [p] v.cells.toList) (hv : Value.okWide P w0 r b t v)
    (hk : match P.underlying t with | some (.struct _) | some (.array _ _) => False | _ => True) (h1 : v.cells = #[v]) : ARel w B S H (.pv p) v := by
  rw [h1] at h
  exact .pv (of_one h)
theorem okWide_array {k : Nat} {e : TypeId} {w : World} {r : Reach} {base : Nat} {v : Value} (ht : P.underlying t = some (.array k e)) (h : Value.okWide P w r base t v) : ∃ cs, v = .agg cs ∧ cs.size = P.cellsOf t := by
  simp only [Value.okWide, ht] at h
  obtain ⟨cs, h1, h2, _⟩ := h
  exact ⟨cs, h1, h2⟩
theorem arg_struct {w w0 : World} {B : BMap} {S : Nat → Prop} {H : List AObj} {ps : List PV} {v : Value} {r : Reach} {b : Nat} {fs : Array Field} (ht : P.underlying t = some (.struct fs)) (hv : Value.okWide P w0 r b t v)
    (h : PRelL w S ps v.cells.toList) : ARel w B S H (.ag ps) v := by
  obtain ⟨cs, rfl, _⟩ := okWide_struct ht hv
  exact h.ag
theorem arg_array {w w0 : World} {B : BMap} {S : Nat → Prop} {H : List AObj} {ps : List PV} {v : Value} {r : Reach} {b : Nat} {k : Nat} {e : TypeId} (ht : P.underlying t = some (.array k e)) (hv : Value.okWide P w0 r b t v)
    (h : PRelL w S ps v.cells.toList) : ARel w B S H (.ag ps) v := by
  obtain ⟨cs, rfl, _⟩ := okWide_array ht hv
  exact h.ag
theorem arg_slice {w w0 : World} {B : BMap} {S : Nat → Prop} {H : List AObj} {p : PV} {v : Value} {r : Reach} {b : Nat} {e : TypeId} (ht : P.underlying t = some (.slice e)) (hv : Value.okWide P w0 r b t v)
    (h : PRelL w S [p] v.cells.toList) : ARel w B S H (.pv p) v := by
  obtain ⟨a, l, c, rfl⟩ := okWide_slice ht hv
  exact .pv (of_one h)
theorem arg_int {w w0 : World} {B : BMap} {S : Nat → Prop} {H : List AObj} {p : PV} {v : Value} {r : Reach} {b : Nat} {k : IntKind} (ht : P.underlying t = some (.int k)) (hv : Value.okWide P w0 r b t v)
    (h : PRelL w S [p] v.cells.toList) : ARel w B S H (.pv p) v := by
  obtain ⟨n, rfl⟩ := okWide_int ht hv
  exact .pv (of_one h)
theorem arg_str {w w0 : World} {B : BMap} {S : Nat → Prop} {H : List AObj} {p : PV} {v : Value} {r : Reach} {b : Nat} (ht : P.underlying t = some .string) (hv : Value.okWide P w0 r b t v)
    (h : PRelL w S [p] v.cells.toList) : ARel w B S H (.pv p) v := by
  obtain ⟨n, rfl⟩ := okWide_string ht hv
  exact .pv (of_one h)
theorem arg_bool {w w0 : World} {B : BMap} {S : Nat → Prop} {H : List AObj} {p : PV} {v : Value} {r : Reach} {b : Nat} (ht : P.underlying t = some .bool) (hv : Value.okWide P w0 r b t v)
    (h : PRelL w S [p] v.cells.toList) : ARel w B S H (.pv p) v := by
  obtain ⟨n, rfl⟩ := okWide_bool ht hv
  exact .pv (of_one h)

/-! ### the row -/
theorem top_hrel (w : World) (hG : GRel w (Old w)) : HRel w (fun _ => none) (Old w) [] :=
  ⟨fun id o h => by simp at h, fun i j b c d hi => by simp at hi, fun i b c hi => by simp at hi, fun b h => h, hG⟩

/-- All of the arguments read behind the call asx they did. -/
theorem trodAll_below {H : Type} {e : TypeId × Value → H} (hl : laidOutB P = true) {W W' : World} (hb : Below W.heap.size W W') : ∀ {ts : List TypeId} {vs : List Value} {ds : List (DataW H)} {ps : List MemPlace},
    (∀ t ∈ ts, P.readableRec t = true ∧ t < P.types.size) → DataW.TrodAll e P W 0 (fun _ => true) true ts vs ds ps → (∀ x ∈ ps, x.block < W.heap.size) →
    ∀ sp : Nat → Bool, (∀ p ∈ ps, sp p.block = true) → DataW.TrodAll e P W' 0 sp true ts vs ds ps
  | [], vs, ds, ps, _, h, _, sp, _ => by
    obtain ⟨rfl, rfl, rfl⟩ := trodAll_nil h
    exact rfl
  | t :: ts, vs, ds, ps, hr, h, hlt, sp, hsp => by
    obtain ⟨v, vs', d, ds', p, q, rfl, rfl, rfl, h1, h2⟩ := trodAll_cons h
    refine ⟨p, q, ?_, trodAll_below hl hb (fun t ht => hr t (by simp [ht])) h2 (fun x hx => hlt x (by simp [hx])) sp (fun x hx => hsp x (by simp [hx])), rfl⟩
    exact WideElems.Trod_stays hl (hr t (by simp)).1 (hr t (by simp)).2 h1 (fun x hx => hb.same (hlt x (by simp [hx]))) (fun x hx => hsp x (by simp [hx]))

theorem Step.below {w w' : World} {B B' : BMap} {S S' : Nat → Prop} {H H' : List AObj} (st : Step w B S H w' B' S' H') (hS : ∀ b, b < w.heap.size → S b) : Below w.heap.size w w' :=
  ⟨st.os, st.tape, st.output, st.size, fun k hk => st.keep k (hS k hk)⟩

/-- What a law owes, out of its walk. -/
theorem law_post {f : FuncId} {fn : Func} {s : ChangeSpec} {H : Type} {e : TypeId × Value → H} {apart fresh handsOn again : Bool} {W : World} {args : Array Value} {ds gs : List (DataW H)} {before : List MemPlace} {xs : List AV} {tb : TypeId}
    (hG : GRel W (Old W)) (hl : laidOutB P = true) (hW : DataW.Whole e P fn.params.toList s.vars apart W args.toList ds gs before) (hv : s.vars = []) (hr : ∀ t ∈ fn.params.toList, P.readableRec t = true ∧ t < P.types.size)
    (hres : fn.resultTypes = #[tb]) (htb : P.underlying tb = some .bool) (hspec : (s.fn H ds).results = [.lit (.bool true)]) (hargs : (s.fn H ds).args = ds) (hvars : (s.fn H ds).vars = [])
    (hx : ARelL W (fun _ => none) (Old W) [] xs args.toList) (hrun : ARun P f xs [] (.ret (.b true) [])) :
    Calls P f args W fun en W' => ∃ v, en = .returned v ∧ s.post e P fn apart fresh handsOn again W args v W' := by
  have hW' := hW
  obtain ⟨p, q, hA, hV, rfl, hfz, hnd⟩ := hW
  rw [hv] at hV
  obtain ⟨rfl, rfl⟩ := trodVars_none hV
  simp only [List.append_nil] at hW' hfz hnd
  have := hrun.run W (fun _ => none) (Old W) args.toList (top_hrel W hG) hx
  simp only [Array.toArray_toList] at this
  refine this.mono ?_
  rintro en W' ⟨B', S', st, hr', he⟩
  have hb : Below W.heap.size W W' := st.below (fun b h => h)
  cases en with
  | returned v =>
    have hvv : v = .bool true := sc_eq he
    subst hvv
    have hlt : ∀ x ∈ p, x.block < W.heap.size := fun x hx => by simpa using hW'.lt x hx
    have hargsT := fun sp hsp => trodAll_below hl hb hr hA hlt sp hsp
    have hbool : ∀ (b : Nat) (sp : Nat → Bool) (hd : Bool), DataW.TrodAll e P W' b sp hd fn.resultTypes.toList ((Value.bool true).resultList fn.resultTypes.size) [.lit (.bool true)] [] := by
      intro b sp hd
      rw [hres]
      exact ⟨[], [], ⟨1, by simp [DataW.trod, Value.cells, htb]⟩, rfl, rfl⟩
    have hold : ∀ x ∈ p, (fun b => decide (b < W.heap.size)) x.block = true := fun x hx => by simpa using hlt x hx
    have hvs : ∀ (sp : Nat → Bool), DataW.TrodVars e P W' sp s.vars ([] : List (DataW H)) [] := by intro sp; rw [hv]; rfl
    refine ⟨_, rfl, ds, [], p, [], p, [], hW', ?_, ?_, ?_, ?_, fun _ => ⟨?_, ?_⟩⟩
    · simp only [List.append_nil, hspec]; exact hbool _ _ _
    · simp only [List.append_nil, hargs]; exact hargsT _ hold
    · simp only [List.append_nil, hvars]; exact hvs _
    · exact hb.frame _
    · intro j t r h1 h2
      rw [hres] at h1 h2
      match j, h1, h2 with
      | 0, h1, h2 =>
        simp [Value.resultList] at h1 h2
        subst h1; subst h2
        simp [Value.okWide, htb, Cell.okWide, Cell.ok]
    · refine ⟨.lit (.bool true) :: ds, [], [] ++ p ++ [], ⟨[] ++ p, [], trodAll_append (hargsT (fun _ => true) (fun _ _ => rfl)) (hbool _ _ _), hvs _, rfl, ?_, ?_⟩, ?_⟩
      · intro b off hp
        simp only [List.append_nil, List.nil_append] at hp
        have h1 := hlt _ hp
        rw [World.frozen?_of_block (w := W) (a := ⟨b, off, none⟩) (hb.block b h1)]
        exact hfz b off hp
      · intro ha; simpa using hnd ha
      · intro x hx _; simpa using hx
  | panicked c => exact he.elim
  | outgrown => exact he.elim
end
end Go.Proofs.Ytiifbdkedainnaa.AL
namespace Go.Proofs.Ytiifbdkedainnaa.AL
variable [G : GTab]
theorem Rd.le {P : Program} {β : (H : Type) → DataW H → Nat} {n m : Nat} {t : TypeId} {α : Type} {enc : α → List PV} {μ : α → Nat} {p : α → Prop} (R : Rd P β n t enc μ p) (h : m ≤ n) : Rd P β m t enc μ p :=
  fun hn hx hl => R (Nat.le_trans hn h) hx hl
theorem Rd.weak {P : Program} {β : (H : Type) → DataW H → Nat} {n : Nat} {t : TypeId} {α : Type} {enc : α → List PV} {μ μ' : α → Nat} {p p' : α → Prop} (R : Rd P β n t enc μ p) (h : ∀ a, μ' a ≤ μ a) (hp : ∀ a, p a → p' a) : Rd P β n t enc μ' p' := by
  intro H e w sp hd fuel cs x hn hx hl
  obtain ⟨a, h1, h2, h3⟩ := R hn hx hl
  exact ⟨a, h1, Nat.le_trans (h a) h2, hp a h3⟩
end Go.Proofs.Ytiifbdkedainnaa.AL

/- Weights of the language's data. -/
namespace Go.Proofs.Ytiifbdkedainnaa.AL
theorem nodesL_sum : ∀ l : List Ex, nodesL l = sumM nodes l
  | [] => rfl
  | e :: l => by simp only [nodesL, sumM, nodesL_sum l]
mutual
def wS : St → Nat
  | .mk _ _ _ a b t e => 1 + nodes a + nodes b + wSL t + wSL e
def wSL : List St → Nat
  | [] => 0
  | s :: ss => wS s + wSL ss
end
theorem wSL_sum : ∀ l : List St, wSL l = sumM wS l
  | [] => rfl
  | e :: l => by simp only [wSL, sumM, wSL_sum l]
theorem wS_eq (s : St) : wS s = 1 + nodes s.a + nodes s.b + wSL s.thn + wSL s.els := by cases s; rw [wS]; rfl
theorem many_le : ∀ s : St, many s ≤ wS s := by
  intro s
  induction s using St.ind with
  | h s h1 h2 =>
    have key : ∀ l : List St, (∀ k ∈ l, many k ≤ wS k) → manyL l ≤ wSL l := by
      intro l
      induction l with
      | nil => intro _; simp [manyL, wSL]
      | cons x xs ih => intro h; simp only [manyL, wSL]; have := h x (by simp); have := ih (fun k hk => h k (by simp [hk])); omega
    rw [many_eq, wS_eq]
    have := key _ h1; have := key _ h2
    split <;> omega
theorem manyL_le : ∀ l : List St, manyL l ≤ wSL l
  | [] => by simp [manyL, wSL]
  | s :: l => by simp only [manyL, wSL]; have := many_le s; have := manyL_le l; omega
theorem tot_le : ∀ s : St, tot s ≤ wS s := by
  intro s
  induction s using St.ind with
  | h s h1 h2 =>
    have key : ∀ l : List St, (∀ k ∈ l, tot k ≤ wS k) → totL l ≤ wSL l := by
      intro l
      induction l with
      | nil => intro _; simp [totL, wSL]
      | cons x xs ih => intro h; simp only [totL, wSL]; have := h x (by simp); have := ih (fun k hk => h k (by simp [hk])); omega
    rw [tot_eq, wS_eq]
    have := key _ h1; have := key _ h2
    omega
theorem totL_le : ∀ l : List St, totL l ≤ wSL l
  | [] => by simp [totL, wSL]
  | s :: l => by simp only [totL, wSL]; have := tot_le s; have := totL_le l; omega
def wV (v : Vr) : Nat := v.name.size + 5
def wP (p : Prg) : Nat := p.name.size + sumM wV p.vars + wSL p.on0 + wSL p.on1 + wSL p.on2 + wSL p.on3 + wSL p.on4 + 1
theorem len_sumM {α : Type} {μ : α → Nat} (h : ∀ a, 1 ≤ μ a) : ∀ l : List α, l.length ≤ sumM μ l
  | [] => by simp [sumM]
  | a :: l => by simp only [List.length_cons, sumM]; have := h a; have := len_sumM h l; omega
end Go.Proofs.Ytiifbdkedainnaa.AL

/- Plain laws: what the reference counts. -/
set_option linter.unusedVariables false
namespace Go.Proofs.Ytiifbdkedainnaa.AL
mutual
def mnS : St → Int → Int → Int
  | .mk k _ _ _ _ t e, b, n => if k = 2 then (n + 1 + mnL t (b - (n + 1)) 0) + mnL e (b - (n + 1 + mnL t (b - (n + 1)) 0)) 0 else n + 1
def mnL : List St → Int → Int → Int
  | [], _, n => n
  | s :: ss, b, n => if n ≤ b then mnL ss b (mnS s b n) else n
end
theorem mnS_eq (s : St) (b n : Int) : mnS s b n = if s.kind = 2 then (n + 1 + mnL s.thn (b - (n + 1)) 0) + mnL s.els (b - (n + 1 + mnL s.thn (b - (n + 1)) 0)) 0 else n + 1 := by cases s; rw [mnS]; rfl
theorem mn_key : ∀ s : St, ∀ b n : Int, n ≤ b → (n ≤ mnS s b n ∧ mnS s b n ≤ n + many s) ∧ (n + many s ≤ b → mnS s b n = n + many s) ∧ (b < n + many s → b < mnS s b n) := by
  have hl : ∀ l : List St, (∀ k ∈ l, ∀ b n : Int, n ≤ b → (n ≤ mnS k b n ∧ mnS k b n ≤ n + many k) ∧ (n + many k ≤ b → mnS k b n = n + many k) ∧ (b < n + many k → b < mnS k b n)) →
      ∀ b n : Int, (n ≤ mnL l b n ∧ mnL l b n ≤ n + manyL l) ∧ (n + manyL l ≤ b → mnL l b n = n + manyL l) ∧ (b < n + manyL l → b < mnL l b n) := by
    intro l
    induction l with
    | nil => intro _ b n; simp only [mnL, manyL]; omega
    | cons x xs ih =>
      intro h b n
      simp only [mnL, manyL]
      have hx : 1 ≤ many x := by rw [many_eq]; omega
      split
      · rename_i hnb
        have h1 := h x (by simp) b n hnb
        have h2 := ih (fun k hk => h k (by simp [hk])) b (mnS x b n)
        omega
      · omega
  intro s
  induction s using St.ind with
  | h s ih1 ih2 =>
    intro b n hnb
    rw [mnS_eq, many_eq]
    split
    · have h1 := hl s.thn ih1 (b - (n + 1)) 0
      have h2 := hl s.els ih2 (b - (n + 1 + mnL s.thn (b - (n + 1)) 0)) 0
      omega
    · omega
theorem mnL_key (l : List St) (b n : Int) : (n ≤ mnL l b n ∧ mnL l b n ≤ n + manyL l) ∧ (n + manyL l ≤ b → mnL l b n = n + manyL l) ∧ (b < n + manyL l → b < mnL l b n) := by
  induction l generalizing n with
  | nil => simp only [mnL, manyL]; omega
  | cons x xs ih =>
    simp only [mnL, manyL]
    have hx : 1 ≤ many x := by rw [many_eq]; omega
    split
    · rename_i hnb
      have h1 := mn_key x b n hnb
      have h2 := ih (mnS x b n)
      omega
    · omega
theorem mnL_gt (l : List St) (b : Int) : b < mnL l b 0 ↔ b < manyL l := by
  have := mnL_key l b 0
  omega
theorem mnS_bd (s : St) (b n : Int) (h : n ≤ b) : n ≤ mnS s b n ∧ mnS s b n ≤ n + many s := (mn_key s b n h).1

mutual
def smlS : St → Bool
  | .mk _ _ _ a b t e => decide (nodes a ≤ 150) && decide (nodes b ≤ 150) && (smlA t && decide (t.length ≤ 150)) && (smlA e && decide (e.length ≤ 150))
def smlA : List St → Bool
  | [] => true
  | s :: ss => smlS s && smlA ss
end
def smlL (l : List St) : Bool := smlA l && decide (l.length ≤ 150)
theorem smlS_eq (s : St) : smlS s = (decide (nodes s.a ≤ 150) && decide (nodes s.b ≤ 150) && smlL s.thn && smlL s.els) := by cases s; rw [smlS]; rfl
/-- What is examined. -/
def fewB (p : Prg) : Bool :=
  (smlL p.on0 && decide (manyL p.on0 ≤ 150)) && ((smlL p.on1 && decide (manyL p.on1 ≤ 150)) && ((smlL p.on2 && decide (manyL p.on2 ≤ 150)) && ((smlL p.on3 && decide (manyL p.on3 ≤ 150)) && ((smlL p.on4 && decide (manyL p.on4 ≤ 150)) &&
    (decide (p.vars.length ≤ 30) && decide (p.name.size ≤ 100))))))
theorem smlA_mem {l : List St} (h : smlA l = true) : ∀ s ∈ l, smlS s = true := by
  induction l with
  | nil => intro s hs; cases hs
  | cons x xs ih =>
    simp only [smlA, Bool.and_eq_true] at h
    intro s hs
    rcases List.mem_cons.1 hs with rfl | hs
    · exact h.1
    · exact ih h.2 s hs
theorem sml_fine : ∀ s : St, smlS s = true → fine s := by
  have hl : ∀ l : List St, (∀ k ∈ l, smlS k = true → fine k) → smlA l = true → fineL l := by
    intro l
    induction l with
    | nil => intro _ _; trivial
    | cons x xs ih =>
      intro h h2
      simp only [smlA, Bool.and_eq_true] at h2
      exact ⟨h x (by simp) h2.1, ih (fun k hk => h k (by simp [hk])) h2.2⟩
  intro s
  induction s using St.ind with
  | h s h1 h2 =>
    intro h
    rw [smlS_eq] at h
    simp only [smlL, Bool.and_eq_true, decide_eq_true_eq] at h
    rw [fine_eq]
    exact ⟨by omega, by omega, hl _ h1 h.1.2.1, hl _ h2 h.2.1⟩
theorem smlL_fine {l : List St} (h : smlL l = true) : fineL l := by
  simp only [smlL, Bool.and_eq_true] at h
  have h1 := smlA_mem h.1
  clear h
  induction l with
  | nil => trivial
  | cons x xs ih => exact ⟨sml_fine x (h1 x (by simp)), ih (fun s hs => h1 s (by simp [hs]))⟩
theorem few_ok {p : Prg} (h : fewB p = true) : okP p := by
  simp only [fewB, Bool.and_eq_true, decide_eq_true_eq] at h
  obtain ⟨⟨a0, b0⟩, ⟨a1, b1⟩, ⟨a2, b2⟩, ⟨a3, b3⟩, ⟨a4, b4⟩, _⟩ := h
  exact ⟨⟨by omega, smlL_fine a0⟩, ⟨by omega, smlL_fine a1⟩, ⟨by omega, smlL_fine a2⟩, ⟨by omega, smlL_fine a3⟩, ⟨by omega, smlL_fine a4⟩⟩
end Go.Proofs.Ytiifbdkedainnaa.AL

set_option maxHeartbeats 8000000
set_option maxRecDepth 20000
set_option linter.unusedVariables false
set_option linter.unusedSimpArgs false
namespace Go.Proofs.Ytiifbdkedainnaa.Y
open Go.Proofs.Ytiifbdkedainnaa.AL Go.Proofs Go
attribute [local irreducible] AWP AWL AWG AWR AWE AWX AWO AWSeq AWSG AWSR AWSO AWSE AWSF GoodP OGW OGR OGE OGX PGW PGR PGE Wk AWLoop AWPD AWLD

theorem RMany_run : ∀ (N : Nat) (l : List St), manyL l ≤ N → manyL l ≤ 1100000 → ∀ (b : Int) (H0 : List AObj), -1100000 ≤ b → b ≤ 1100000 →
    ARun Try.prog 65 [.rs 13 (l.map encS), .i b] H0 (.ret (.i (mnL l b 0)) H0) := by
  intro N
  induction N with
  | zero =>
    intro l hN _ b H0 hb1 hb2
    have hl : l = [] := by have := len_manyL l; exact List.eq_nil_of_length_eq_zero (by omega)
    subst hl
    (refine ARun.intro Try.func65 rfl Try.call65 Try.ntmps65 Try.results65 ?_; simp only [List.length_cons, List.length_nil, List.length_map, Nat.reduceAdd, Nat.reduceSub, List.replicate_succ, List.replicate_zero, List.cons_append, List.nil_append])
    (refine wk ?_; (repeat' first | exact True.intro | refine Lf.mk ?_ ?_); all_goals intro hP)
    refine awp_loop 1 ?_
    unfold AWLoop
    (refine wk ?_; (repeat' first | exact True.intro | refine Lf.mk ?_ ?_); all_goals intro hP)
    (refine resX ?_; try exact True.intro)
    all_goals simp [mnL]
  | succ N ihN =>
    intro l hN hM b H0 hb1 hb2
    (refine ARun.intro Try.func65 rfl Try.call65 Try.ntmps65 Try.results65 ?_; simp only [List.length_cons, List.length_nil, List.length_map, Nat.reduceAdd, Nat.reduceSub, List.replicate_succ, List.replicate_zero, List.cons_append, List.nil_append])
    (refine wk ?_; (repeat' first | exact True.intro | refine Lf.mk ?_ ?_); all_goals intro hP)
    refine awp_loop_ind (σ := Nat × Int) (fun s => l.length - s.1) (fun s => 0 ≤ s.2 ∧ s.2 ≤ 1100000 ∧ mnL (l.drop s.1) b s.2 = mnL l b 0)
      (fun s => (.rs 13 (l.map encS) :: .i b :: .any :: .any :: .any :: .i s.2 :: .i s.1 :: .any :: .any :: .any :: .any :: .any :: .any :: .any :: .any :: .any :: .any :: .any :: .any :: .any :: .any :: .any :: .any :: .any :: .any :: .any :: .any :: .any :: .any :: .any :: .any :: .any :: .any :: .any :: .any :: .any :: .any :: .any :: .any :: .any :: .any :: .any :: .any :: .any :: .any :: .any :: .any :: .any :: .any :: []))
      (fun s => H0) (0, 0) ⟨by simp, by simp, by simp⟩ (by (refine fgtX ?_; try exact True.intro)) ?_
    rintro ⟨i, n⟩ ⟨h2, h3, h4⟩
    simp only at h2 h3 h4 ⊢
    have hlen := len_manyL l
    cases hr : l.drop i with
    | nil =>
      have hlt := drop_nil hr
      rw [hr, mnL] at h4
      (have ww1 := hlt; refine wk ?_; clear ww1; (repeat' first | exact True.intro | refine Lf.mk ?_ ?_); all_goals intro hP)
      (refine resX ?_; try exact True.intro)
      rw [h4]
    | cons k rest =>
      obtain ⟨hk, hlt, hd, hm⟩ := drop_cons hr
      rw [hr, mnL] at h4
      have hz2 := manyL_mem hm
      by_cases hnb : n ≤ b
      · rw [if_pos hnb] at h4
        have hbd := mnS_bd k b n hnb
        have hbd2 := (mnL_key rest b (mnS k b n)).1
        have hbd3 := (mnL_key l b 0).1
        rw [mnS_eq] at h4 hbd hbd2
        by_cases hk2 : k.kind = 2
        · rw [if_pos hk2] at h4 hbd hbd2
          have hin : manyL k.thn + manyL k.els = manyL (innerL k) := by
            rw [innerL, if_pos hk2, manyL_append]
          have t1 := mnL_key k.thn (b - (n + 1)) 0
          have t2 := mnL_key k.els (b - (n + 1 + mnL k.thn (b - (n + 1)) 0)) 0
          repeat' (first | refine awp_seq ?_ | refine awp_block ?_ | refine awp_scope ?_ | ((first | refine awp_region_k fun Kn Kp hn hp => ?_ | refine oge_intro (by assumption) ?_ | (show AWE _ _ _ _ _ _ _ _ _; first | refine awe_intro (ihN k.thn (by omega) (by omega) _ _ (by omega) (by omega)) ?_ | refine awe_intro (ihN k.els (by omega) (by omega) _ _ (by omega) (by omega)) ?_) | (show AWSF _ _ _ _ _ _ _ _ _ _ _; first | refine awsf_intro (ihN k.thn (by omega) (by omega) _ _ (by omega) (by omega)) (fun hrun => ?_) | refine awsf_intro (ihN k.els (by omega) (by omega) _ _ (by omega) (by omega)) (fun hrun => ?_)) | (show OGE _ _ _ _ _ _ _; first | refine oge_intro (ihN k.thn (by omega) (by omega) _ _ (by omega) (by omega)) ?_ | refine oge_intro (ihN k.els (by omega) (by omega) _ _ (by omega) (by omega)) ?_) | (show AWSE _ _ _ _ _ _ _ _ _ _ _; first | refine awse_intro (ihN k.thn (by omega) (by omega) _ _ (by omega) (by omega)) (fun hrun => ?_) | refine awse_intro (ihN k.els (by omega) (by omega) _ _ (by omega) (by omega)) (fun hrun => ?_)) | (show PGE _ _ _ _ _; first | refine pge_intro (ihN k.thn (by omega) (by omega) _ _ (by omega) (by omega)) (fun tm' => ?_) | refine pge_intro (ihN k.els (by omega) (by omega) _ _ (by omega) (by omega)) (fun tm' => ?_))) <;> (simp only [go_sem, Nat.reduceAdd, Nat.reduceSub, Nat.reduceMul, Nat.reduceLeDiff, Nat.reduceLT, Nat.reduceEqDiff, Int.reduceToNat, Int.reduceAdd, Int.reduceMul, Int.reduceSub, Int.reduceLT, Int.reduceLE, Int.reduceEq, Int.reduceNeg, Int.reduceBEq, Int.reduceBNe, ↓reduceIte, reduceCtorEq, hlt, hnb, hk, encS_eq, hk2] <;> try simp (disch := omega) only [wrap_of])) | (refine hn _ _ ?_; clear hn hp Kn Kp) | (refine hp _ _ _ ?_; clear hn hp Kn Kp) | (refine awp_cond rfl (fun hb => ?_) (fun hb => ?_) <;> (try simp only [decide_eq_true_eq, decide_eq_false_iff_not, Bool.not_eq_true', Bool.not_eq_false', Bool.true_eq_false, Bool.false_eq_true, beq_iff_eq, bne_iff_ne, bne_eq_false_iff_eq, beq_eq_false_iff_ne, gt_iff_lt, ge_iff_le, Int.reduceEq, Int.reduceNe, Int.reduceLT, Int.reduceLE, ne_eq, not_true_eq_false, not_false_eq_true] at hb)) | ((first | refine awg_split (fun hb => ?_) (fun hb => ?_) | refine awsg_split (fun hb => ?_) (fun hb => ?_)) <;> have hb0 := hb <;> (try simp only [decide_eq_true_eq, decide_eq_false_iff_not, Bool.not_eq_true', Bool.not_eq_false', Bool.true_eq_false, Bool.false_eq_true, beq_iff_eq, bne_iff_ne, bne_eq_false_iff_eq, beq_eq_false_iff_ne, gt_iff_lt, ge_iff_le, Int.reduceEq, Int.reduceNe, Int.reduceLT, Int.reduceLE, ne_eq, not_true_eq_false, not_false_eq_true] at hb0) <;> (try simp only [beq_true, beq_false, Bool.not_eq_true', Bool.not_eq_false'] at hb) <;> (simp only [go_sem, Nat.reduceAdd, Nat.reduceSub, Nat.reduceMul, Nat.reduceLeDiff, Nat.reduceLT, Nat.reduceEqDiff, Int.reduceToNat, Int.reduceAdd, Int.reduceMul, Int.reduceSub, Int.reduceLT, Int.reduceLE, Int.reduceEq, Int.reduceNeg, Int.reduceBEq, Int.reduceBNe, ↓reduceIte, reduceCtorEq, hlt, hnb, hk, encS_eq, hk2, hb, hb0] <;> try simp (disch := omega) only [wrap_of])) | (refine And.intro ?_ ?_) | refine awp_skip ?_ | refine awp_ret ?_ | refine awp_exit ?_ | refine awp_label ?_ | refine awloop_step ?_ | fail)
          refine ⟨(i + 1, _), by simp only; omega, ⟨?_, ?_, by simp only; rw [hd]; exact h4⟩, ?_⟩
          · simp only; omega
          · simp only; omega
          · (refine dropX ?_; try exact True.intro)
            simp [wrap_of (n := (i : Int) + 1) (by omega) (by omega)]
        · rw [if_neg hk2] at h4 hbd hbd2
          have hk2' : (k.kind == 2) = false := by simpa using hk2
          (have ww1 := hlt; have ww2 := hnb; have ww3 := hk; have ww4 := @encS_eq; have ww5 := hk2'; refine wk ?_; clear ww1 ww2 ww3 ww4 ww5; (repeat' first | exact True.intro | refine Lf.mk ?_ ?_); all_goals intro hP)
          refine ⟨(i + 1, _), by simp only; omega, ⟨?_, ?_, by simp only; rw [hd]; exact h4⟩, ?_⟩
          · simp only; omega
          · simp only; omega
          · (refine dropX ?_; try exact True.intro)
            simp [wrap_of (n := (i : Int) + 1) (by omega) (by omega)]
      · rw [if_neg hnb] at h4
        (have ww1 := hlt; have ww2 := hnb; refine wk ?_; clear ww1 ww2; (repeat' first | exact True.intro | refine Lf.mk ?_ ?_); all_goals intro hP)
        (refine resX ?_; try exact True.intro)
        rw [h4]

theorem RShort_run : ∀ (N : Nat) (l : List St), totL l ≤ N → ∀ (H0 : List AObj), ARun Try.prog 66 [.rs 13 (l.map encS)] H0 (.ret (.b (smSL l)) H0) := by
  intro N
  induction N with
  | zero =>
    intro l hN H0
    have hl : l = [] := by have := len_totL l; exact List.eq_nil_of_length_eq_zero (by omega)
    subst hl
    (refine ARun.intro Try.func66 rfl Try.call66 Try.ntmps66 Try.results66 ?_; simp only [List.length_cons, List.length_nil, List.length_map, Nat.reduceAdd, Nat.reduceSub, List.replicate_succ, List.replicate_zero, List.cons_append, List.nil_append])
    (refine wk ?_; (repeat' first | exact True.intro | refine Lf.mk ?_ ?_); all_goals intro hP)
    refine awp_loop 1 ?_
    unfold AWLoop
    (refine wk ?_; (repeat' first | exact True.intro | refine Lf.mk ?_ ?_); all_goals intro hP)
    (refine resX ?_; try exact True.intro)
    all_goals simp [smSL]
  | succ N ihN =>
    intro l hN H0
    (refine ARun.intro Try.func66 rfl Try.call66 Try.ntmps66 Try.results66 ?_; simp only [List.length_cons, List.length_nil, List.length_map, Nat.reduceAdd, Nat.reduceSub, List.replicate_succ, List.replicate_zero, List.cons_append, List.nil_append])
    refine awp_len 0 rfl fun hlen => ?_
    rw [List.length_map] at hlen
    (refine wk ?_; (repeat' first | exact True.intro | refine Lf.mk ?_ ?_); all_goals intro hP)
    refine awp_loop_ind (σ := Nat) (fun s => l.length - s) (fun s => s ≤ l.length ∧ smSL l = smSL (l.drop s))
      (fun s => (.rs 13 (l.map encS) :: .any :: .any :: .i s :: .any :: .any :: .any :: .any :: .any :: .any :: .any :: .any :: .any :: .any :: .any :: .any :: .any :: .any :: .any :: .any :: .any :: .any :: .any :: .any :: .any :: .any :: .any :: .any :: .any :: .any :: .any :: .any :: .any :: .any :: .any :: .any :: .any :: .any :: .any :: .any :: .any :: .any :: []))
      (fun s => H0) 0 ⟨Nat.zero_le _, by simp⟩ (by (refine fgtX ?_; try exact True.intro)) ?_
    rintro i ⟨h1, h4⟩
    cases hr : l.drop i with
    | nil =>
      have hlt := drop_nil hr
      rw [hr, smSL] at h4
      (have ww1 := hlt; refine wk ?_; clear ww1; (repeat' first | exact True.intro | refine Lf.mk ?_ ?_); all_goals intro hP)
      (refine resX ?_; try exact True.intro)
      rw [h4]
    | cons k rest =>
      obtain ⟨hk, hlt, hd, hm⟩ := drop_cons hr
      have hmm := totL_mem hm
      rw [tot_eq] at hmm
      have ht := fun H0 => ihN k.thn (by omega) H0
      have he := fun H0 => ihN k.els (by omega) H0
      have ka := fun H0 => Size_run k.a 60 H0 (by omega) (by omega)
      have kb := fun H0 => Size_run k.b 60 H0 (by omega) (by omega)
      have ga := size_gt k.a 60 (by omega)
      have gb := size_gt k.b 60 (by omega)
      have hks : smS k = (decide (nodes k.a ≤ 60) && (if k.kind = 2 then decide (nodes k.b ≤ 60) && (smSL k.thn && smSL k.els) else true)) := by cases k; rw [smS]; rfl
      rw [hr] at h4
      simp only [smSL] at h4
      rw [hks] at h4
      by_cases hA : 60 < size k.a 60
      · have : ¬ nodes k.a ≤ 60 := by have := ga.1 hA; omega
        (have ww1 := hlt; have ww2 := hk; have ww3 := @encS_eq; have ww4 := hA; have cc1 := fun z1 => ka z1; refine wk ?_; clear ww1 ww2 ww3 ww4 cc1; (repeat' first | exact True.intro | refine Lf.mk ?_ ?_); all_goals intro hP)
        (refine resX ?_; try exact True.intro)
        rw [h4]; simp [this]
      · have hA' : nodes k.a ≤ 60 := by have := fun h => hA (ga.2 h); omega
        by_cases hk2 : k.kind = 2
        · by_cases hB : 60 < size k.b 60
          · have : ¬ nodes k.b ≤ 60 := by have := gb.1 hB; omega
            (have ww1 := hlt; have ww2 := hk; have ww3 := @encS_eq; have ww4 := hA; have ww5 := hk2; have ww6 := hB; have cc1 := fun z1 => ka z1; have cc2 := fun z1 => kb z1; have cc3 := fun z1 => ht z1; have cc4 := fun z1 => he z1; refine wk ?_; clear ww1 ww2 ww3 ww4 ww5 ww6 cc1 cc2 cc3 cc4; (repeat' first | exact True.intro | refine Lf.mk ?_ ?_); all_goals intro hP)
            (refine resX ?_; try exact True.intro)
            rw [h4]; simp [this, hk2]
          · have hB' : nodes k.b ≤ 60 := by have := fun h => hB (gb.2 h); omega
            cases hT : smSL k.thn with
            | false =>
              simp only [hT] at ht
              (have ww1 := hlt; have ww2 := hk; have ww3 := @encS_eq; have ww4 := hA; have ww5 := hk2; have ww6 := hB; have cc1 := fun z1 => ka z1; have cc2 := fun z1 => kb z1; have cc3 := fun z1 => ht z1; have cc4 := fun z1 => he z1; refine wk ?_; clear ww1 ww2 ww3 ww4 ww5 ww6 cc1 cc2 cc3 cc4; (repeat' first | exact True.intro | refine Lf.mk ?_ ?_); all_goals intro hP)
              (refine resX ?_; try exact True.intro)
              rw [h4]; simp [hT, hk2]
            | true =>
              simp only [hT] at ht
              cases hE : smSL k.els with
              | false =>
                simp only [hE] at he
                (have ww1 := hlt; have ww2 := hk; have ww3 := @encS_eq; have ww4 := hA; have ww5 := hk2; have ww6 := hB; have cc1 := fun z1 => ka z1; have cc2 := fun z1 => kb z1; have cc3 := fun z1 => ht z1; have cc4 := fun z1 => he z1; refine wk ?_; clear ww1 ww2 ww3 ww4 ww5 ww6 cc1 cc2 cc3 cc4; (repeat' first | exact True.intro | refine Lf.mk ?_ ?_); all_goals intro hP)
                (refine resX ?_; try exact True.intro)
                rw [h4]; simp [hT, hE, hk2]
              | true =>
                simp only [hE] at he
                (have ww1 := hlt; have ww2 := hk; have ww3 := @encS_eq; have ww4 := hA; have ww5 := hk2; have ww6 := hB; have cc1 := fun z1 => ka z1; have cc2 := fun z1 => kb z1; have cc3 := fun z1 => ht z1; have cc4 := fun z1 => he z1; refine wk ?_; clear ww1 ww2 ww3 ww4 ww5 ww6 cc1 cc2 cc3 cc4; (repeat' first | exact True.intro | refine Lf.mk ?_ ?_); all_goals intro hP)
                refine ⟨i + 1, by omega, ⟨by omega, ?_⟩, ?_⟩
                · rw [h4, hd]; simp [hA', hB', hT, hE]
                · (refine dropX ?_; try exact True.intro)
                  simp [wrap_of (n := (i : Int) + 1) (by omega) (by omega)]
        · have hk2' : (k.kind == 2) = false := by simpa using hk2
          (have ww1 := hlt; have ww2 := hk; have ww3 := @encS_eq; have ww4 := hA; have ww5 := hk2'; have cc1 := fun z1 => ka z1; refine wk ?_; clear ww1 ww2 ww3 ww4 ww5 cc1; (repeat' first | exact True.intro | refine Lf.mk ?_ ?_); all_goals intro hP)
          refine ⟨i + 1, by omega, ⟨by omega, ?_⟩, ?_⟩
          · rw [h4, hd]; simp [hA', hk2]
          · (refine dropX ?_; try exact True.intro)
            simp [wrap_of (n := (i : Int) + 1) (by omega) (by omega)]
end Go.Proofs.Ytiifbdkedainnaa.Y

set_option maxHeartbeats 8000000
set_option maxRecDepth 20000
set_option linter.unusedVariables false
set_option linter.unusedSimpArgs false
namespace Go.Proofs.Ytiifbdkedainnaa.Y
open Go.Proofs.Ytiifbdkedainnaa.AL Go.Proofs Go
attribute [local irreducible] AWP AWL AWG AWR AWE AWX AWO AWSeq AWSG AWSR AWSO AWSE AWSF GoodP OGW OGR OGE OGX PGW PGR PGE Wk AWLoop AWPD AWLD

def fine1 (p : Prg) : Prop := manyL p.on0 ≤ 1100000 ∧ manyL p.on1 ≤ 1100000 ∧ manyL p.on2 ≤ 1100000 ∧ manyL p.on3 ≤ 1100000 ∧ manyL p.on4 ≤ 1100000 ∧ p.vars.length ≤ 1100000
end Go.Proofs.Ytiifbdkedainnaa.Y

set_option maxHeartbeats 8000000
set_option maxRecDepth 20000
set_option linter.unusedVariables false
set_option linter.unusedSimpArgs false
namespace Go.Proofs.Ytiifbdkedainnaa.Y
open Go.Proofs.Ytiifbdkedainnaa.AL Go.Proofs Go
attribute [local irreducible] AWP AWL AWG AWR AWE AWX AWO AWSeq AWSG AWSR AWSO AWSE AWSF GoodP OGW OGR OGE OGX PGW PGR PGE Wk AWLoop AWPD AWLD

theorem Rstmt_run (l : List Vr) (us : List Un) (hks : ksL l = some us) (s : St)
    (hT : ∀ H0, ARun Try.prog 67 [.rs 5 (l.map encV), .rs 13 (s.thn.map encS)] H0 (.ret (.i (stSL us s.thn)) H0))
    (hE : ∀ H0, ARun Try.prog 67 [.rs 5 (l.map encV), .rs 13 (s.els.map encS)] H0 (.ret (.i (stSL us s.els)) H0))
    (H0 : List AObj) : ARun Try.prog 79 [.rs 5 (l.map encV), .ag (cS s)] H0 (.ret (.i (stS us s)) H0) := by
  have hg := ksL_get hks
  have ka := fun H0 => Rexpr_run l us hks s.a H0
  have kb := fun H0 => Rexpr_run l us hks s.b H0
  rw [stS_eq]
  by_cases h1 : s.kind = 1
  · simp only [h1, if_true]
    by_cases hv0 : 0 ≤ s.var
    · simp only [hv0, if_true]
      have hn0 : ¬ s.var < 0 := by omega
      cases hv : l[s.var.toNat]? with
      | none =>
        have hu := hg s.var.toNat
        rw [hv] at hu
        simp only [Option.bind_none] at hu
        rw [hu]
        have hlv : (l.length : Int) ≤ s.var := by rw [List.getElem?_eq_none_iff] at hv; omega
        (refine ARun.intro Try.func79 rfl Try.call79 Try.ntmps79 Try.results79 ?_; simp only [List.length_cons, List.length_nil, List.length_map, Nat.reduceAdd, Nat.reduceSub, List.replicate_succ, List.replicate_zero, List.cons_append, List.nil_append])
        (have ww1 := h1; have ww2 := hn0; have ww3 := hlv; refine wk ?_; clear ww1 ww2 ww3; (repeat' first | exact True.intro | refine Lf.mk ?_ ?_); all_goals intro hP)
        (refine resX ?_; try exact True.intro)
      | some v =>
        have hu := hg s.var.toNat
        rw [hv] at hu
        simp only [Option.bind_some] at hu
        have hlt := (List.getElem?_eq_some_iff.1 hv).1
        have hlv : ¬ (l.length : Int) ≤ s.var := by omega
        have hlv2 : s.var < (l.length : Int) := by omega
        have hsome : ∃ w, ofK v.unit = some w := by
          have h2 : s.var.toNat < us.length := by rw [ksL_len hks]; omega
          rw [List.getElem?_eq_getElem h2] at hu
          exact ⟨_, hu.symm⟩
        obtain ⟨w, hw⟩ := hsome
        rw [hw] at hu
        simp only [hu]
        cases hi : inf us s.a with
        | error x =>
          have hx := inf_err us s.a x hi
          have hx0 : (x != 0) = true := by simp; omega
          simp only [hi, ansU] at ka
          (refine ARun.intro Try.func79 rfl Try.call79 Try.ntmps79 Try.results79 ?_; simp only [List.length_cons, List.length_nil, List.length_map, Nat.reduceAdd, Nat.reduceSub, List.replicate_succ, List.replicate_zero, List.cons_append, List.nil_append])
          (have ww1 := h1; have ww2 := hn0; have ww3 := hlv; have ww4 := hx0; have cc1 := fun z1 => ka z1; refine wk ?_; clear ww1 ww2 ww3 ww4 cc1; (repeat' first | exact True.intro | refine Lf.mk ?_ ?_); all_goals intro hP)
          (refine resX ?_; try exact True.intro)
        | ok u =>
          simp only [hi, ansU] at ka
          have hE := eqU u w
          by_cases huw : u = w
          · rw [decide_eq_true huw] at hE
            (refine ARun.intro Try.func79 rfl Try.call79 Try.ntmps79 Try.results79 ?_; simp only [List.length_cons, List.length_nil, List.length_map, Nat.reduceAdd, Nat.reduceSub, List.replicate_succ, List.replicate_zero, List.cons_append, List.nil_append])
            (have ww1 := h1; have ww2 := hn0; have ww3 := hlv; have ww4 := hlv2; have ww5 := hv0; have ww6 := hv; have ww7 := @encV_eq; have ww8 := @ofA.eq_1; have ww9 := hw; have ww10 := @eqs34; have ww11 := @eqg34; have ww12 := hE; have cc1 := fun z1 => ka z1; have cc2 := fun z1 z2 => ROf_run z1 z2; refine wk ?_; clear ww1 ww2 ww3 ww4 ww5 ww6 ww7 ww8 ww9 ww10 ww11 ww12 cc1 cc2; (repeat' first | exact True.intro | refine Lf.mk ?_ ?_); all_goals intro hP)
            (refine resX ?_; try exact True.intro)
            all_goals simp [huw]
          · rw [decide_eq_false huw] at hE
            (refine ARun.intro Try.func79 rfl Try.call79 Try.ntmps79 Try.results79 ?_; simp only [List.length_cons, List.length_nil, List.length_map, Nat.reduceAdd, Nat.reduceSub, List.replicate_succ, List.replicate_zero, List.cons_append, List.nil_append])
            (have ww1 := h1; have ww2 := hn0; have ww3 := hlv; have ww4 := hlv2; have ww5 := hv0; have ww6 := hv; have ww7 := @encV_eq; have ww8 := @ofA.eq_1; have ww9 := hw; have ww10 := @eqs34; have ww11 := @eqg34; have ww12 := hE; have cc1 := fun z1 => ka z1; have cc2 := fun z1 z2 => ROf_run z1 z2; refine wk ?_; clear ww1 ww2 ww3 ww4 ww5 ww6 ww7 ww8 ww9 ww10 ww11 ww12 cc1 cc2; (repeat' first | exact True.intro | refine Lf.mk ?_ ?_); all_goals intro hP)
            (refine resX ?_; try exact True.intro)
            all_goals simp [huw]
    · have hn0 : s.var < 0 := by omega
      simp only [hv0, if_false]
      (refine ARun.intro Try.func79 rfl Try.call79 Try.ntmps79 Try.results79 ?_; simp only [List.length_cons, List.length_nil, List.length_map, Nat.reduceAdd, Nat.reduceSub, List.replicate_succ, List.replicate_zero, List.cons_append, List.nil_append])
      (have ww1 := h1; have ww2 := hn0; refine wk ?_; clear ww1 ww2; (repeat' first | exact True.intro | refine Lf.mk ?_ ?_); all_goals intro hP)
      (refine resX ?_; try exact True.intro)
  · have h1' : (s.kind == 1) = false := by simpa using h1
    simp only [h1, if_false]
    by_cases h2 : s.kind = 2
    · simp only [h2, if_true]
      by_cases hr : 1 ≤ s.rel ∧ s.rel ≤ 6
      · have r1 : ¬ s.rel < 1 := by omega
        have r2 : ¬ 6 < s.rel := by omega
        simp only [hr, and_self, if_true]
        cases hi : inf us s.a with
        | error x =>
          have hx := inf_err us s.a x hi
          have hx0 : (x != 0) = true := by simp; omega
          simp only [hi, ansU] at ka
          (refine ARun.intro Try.func79 rfl Try.call79 Try.ntmps79 Try.results79 ?_; simp only [List.length_cons, List.length_nil, List.length_map, Nat.reduceAdd, Nat.reduceSub, List.replicate_succ, List.replicate_zero, List.cons_append, List.nil_append])
          (have ww1 := h2; have ww2 := r1; have ww3 := r2; have ww4 := hx0; have cc1 := fun z1 => ka z1; refine wk ?_; clear ww1 ww2 ww3 ww4 cc1; (repeat' first | exact True.intro | refine Lf.mk ?_ ?_); all_goals intro hP)
          (refine resX ?_; try exact True.intro)
        | ok u =>
          simp only [hi, ansU] at ka
          cases hj : inf us s.b with
          | error x =>
            have hx := inf_err us s.b x hj
            have hx0 : (x != 0) = true := by simp; omega
            simp only [hj, ansU] at kb
            (refine ARun.intro Try.func79 rfl Try.call79 Try.ntmps79 Try.results79 ?_; simp only [List.length_cons, List.length_nil, List.length_map, Nat.reduceAdd, Nat.reduceSub, List.replicate_succ, List.replicate_zero, List.cons_append, List.nil_append])
            (have ww1 := h2; have ww2 := r1; have ww3 := r2; have ww4 := hx0; have cc1 := fun z1 => ka z1; have cc2 := fun z1 => kb z1; refine wk ?_; clear ww1 ww2 ww3 ww4 cc1 cc2; (repeat' first | exact True.intro | refine Lf.mk ?_ ?_); all_goals intro hP)
            (refine resX ?_; try exact True.intro)
          | ok w =>
            simp only [hj, ansU] at kb
            have hEq := eqU u w
            by_cases huw : u = w
            · rw [decide_eq_true huw] at hEq
              simp only [huw, if_true]
              by_cases hS : stSL us s.thn = 0
              · have hS' : (stSL us s.thn != 0) = false := by simp [hS]
                simp only [hS, if_true]
                (refine ARun.intro Try.func79 rfl Try.call79 Try.ntmps79 Try.results79 ?_; simp only [List.length_cons, List.length_nil, List.length_map, Nat.reduceAdd, Nat.reduceSub, List.replicate_succ, List.replicate_zero, List.cons_append, List.nil_append])
                (have ww1 := h2; have ww2 := r1; have ww3 := r2; have ww4 := @eqs34; have ww5 := @eqg34; have ww6 := hEq; have ww7 := hS'; have cc1 := fun z1 => ka z1; have cc2 := fun z1 => kb z1; have cc3 := fun z1 => hT z1; have cc4 := fun z1 => hE z1; refine wk ?_; clear ww1 ww2 ww3 ww4 ww5 ww6 ww7 cc1 cc2 cc3 cc4; (repeat' first | exact True.intro | refine Lf.mk ?_ ?_); all_goals intro hP)
                (refine resX ?_; try exact True.intro)
              · have hS' : (stSL us s.thn != 0) = true := by simpa using hS
                simp only [hS, if_false]
                (refine ARun.intro Try.func79 rfl Try.call79 Try.ntmps79 Try.results79 ?_; simp only [List.length_cons, List.length_nil, List.length_map, Nat.reduceAdd, Nat.reduceSub, List.replicate_succ, List.replicate_zero, List.cons_append, List.nil_append])
                (have ww1 := h2; have ww2 := r1; have ww3 := r2; have ww4 := @eqs34; have ww5 := @eqg34; have ww6 := hEq; have ww7 := hS'; have cc1 := fun z1 => ka z1; have cc2 := fun z1 => kb z1; have cc3 := fun z1 => hT z1; have cc4 := fun z1 => hE z1; refine wk ?_; clear ww1 ww2 ww3 ww4 ww5 ww6 ww7 cc1 cc2 cc3 cc4; (repeat' first | exact True.intro | refine Lf.mk ?_ ?_); all_goals intro hP)
                (refine resX ?_; try exact True.intro)
            · rw [decide_eq_false huw] at hEq
              simp only [huw, if_false]
              (refine ARun.intro Try.func79 rfl Try.call79 Try.ntmps79 Try.results79 ?_; simp only [List.length_cons, List.length_nil, List.length_map, Nat.reduceAdd, Nat.reduceSub, List.replicate_succ, List.replicate_zero, List.cons_append, List.nil_append])
              (have ww1 := h2; have ww2 := r1; have ww3 := r2; have ww4 := @eqs34; have ww5 := @eqg34; have ww6 := hEq; have cc1 := fun z1 => ka z1; have cc2 := fun z1 => kb z1; refine wk ?_; clear ww1 ww2 ww3 ww4 ww5 ww6 cc1 cc2; (repeat' first | exact True.intro | refine Lf.mk ?_ ?_); all_goals intro hP)
              (refine resX ?_; try exact True.intro)
      · simp only [hr, if_false]
        (refine ARun.intro Try.func79 rfl Try.call79 Try.ntmps79 Try.results79 ?_; simp only [List.length_cons, List.length_nil, List.length_map, Nat.reduceAdd, Nat.reduceSub, List.replicate_succ, List.replicate_zero, List.cons_append, List.nil_append])
        repeat' (first | refine awp_seq ?_ | refine awp_block ?_ | refine awp_scope ?_ | ((first | refine awp_region_k fun Kn Kp hn hp => ?_ | refine oge_intro (by assumption) ?_) <;> (simp only [go_sem, Nat.reduceAdd, Nat.reduceSub, Nat.reduceMul, Nat.reduceLeDiff, Nat.reduceLT, Nat.reduceEqDiff, Int.reduceToNat, Int.reduceAdd, Int.reduceMul, Int.reduceSub, Int.reduceLT, Int.reduceLE, Int.reduceEq, Int.reduceNeg, Int.reduceBEq, Int.reduceBNe, ↓reduceIte, reduceCtorEq, h2] <;> try simp (disch := omega) only [wrap_of])) | (refine hn _ _ ?_; clear hn hp Kn Kp) | (refine hp _ _ _ ?_; clear hn hp Kn Kp) | (refine awp_cond rfl (fun hb => ?_) (fun hb => ?_) <;> (try simp only [decide_eq_true_eq, decide_eq_false_iff_not, Bool.not_eq_true', Bool.not_eq_false', Bool.true_eq_false, Bool.false_eq_true, beq_iff_eq, bne_iff_ne, bne_eq_false_iff_eq, beq_eq_false_iff_ne, gt_iff_lt, ge_iff_le, Int.reduceEq, Int.reduceNe, Int.reduceLT, Int.reduceLE, ne_eq, not_true_eq_false, not_false_eq_true] at hb)) | ((first | refine awg_split (fun hb => ?_) (fun hb => ?_) | refine awsg_split (fun hb => ?_) (fun hb => ?_)) <;> have hb0 := hb <;> (try simp only [decide_eq_true_eq, decide_eq_false_iff_not, Bool.not_eq_true', Bool.not_eq_false', Bool.true_eq_false, Bool.false_eq_true, beq_iff_eq, bne_iff_ne, bne_eq_false_iff_eq, beq_eq_false_iff_ne, gt_iff_lt, ge_iff_le, Int.reduceEq, Int.reduceNe, Int.reduceLT, Int.reduceLE, ne_eq, not_true_eq_false, not_false_eq_true] at hb0) <;> (try simp only [beq_true, beq_false, Bool.not_eq_true', Bool.not_eq_false'] at hb) <;> (simp only [go_sem, Nat.reduceAdd, Nat.reduceSub, Nat.reduceMul, Nat.reduceLeDiff, Nat.reduceLT, Nat.reduceEqDiff, Int.reduceToNat, Int.reduceAdd, Int.reduceMul, Int.reduceSub, Int.reduceLT, Int.reduceLE, Int.reduceEq, Int.reduceNeg, Int.reduceBEq, Int.reduceBNe, ↓reduceIte, reduceCtorEq, h2, hb, hb0] <;> try simp (disch := omega) only [wrap_of])) | (refine And.intro ?_ ?_) | refine awp_skip ?_ | refine awp_ret ?_ | refine awp_exit ?_ | refine awp_label ?_ | refine awloop_step ?_ | fail)
        all_goals first
          | omega
          | ((refine resX ?_; try exact True.intro))
    · have h2' : (s.kind == 2) = false := by simpa using h2
      simp only [h2, if_false]
      (refine ARun.intro Try.func79 rfl Try.call79 Try.ntmps79 Try.results79 ?_; simp only [List.length_cons, List.length_nil, List.length_map, Nat.reduceAdd, Nat.reduceSub, List.replicate_succ, List.replicate_zero, List.cons_append, List.nil_append])
      (have ww1 := h1'; have ww2 := h2'; refine wk ?_; clear ww1 ww2; (repeat' first | exact True.intro | refine Lf.mk ?_ ?_); all_goals intro hP)
      (refine resX ?_; try exact True.intro)
end Go.Proofs.Ytiifbdkedainnaa.Y

set_option maxHeartbeats 8000000
set_option maxRecDepth 20000
set_option linter.unusedVariables false
set_option linter.unusedSimpArgs false
namespace Go.Proofs.Ytiifbdkedainnaa.Y
open Go.Proofs.Ytiifbdkedainnaa.AL Go.Proofs Go
attribute [local irreducible] AWP AWL AWG AWR AWE AWX AWO AWSeq AWSG AWSR AWSO AWSE AWSF GoodP OGW OGR OGE OGX PGW PGR PGE Wk AWLoop AWPD AWLD
theorem dr34_7_U26 : Drawn Try.prog 7 (regOps 7 ((Try.f34.body).getD .skip)) [6] [] [.win [0], .win [0], .win [0], .win [0], .win [0], .win [0], .eff 0, .win [1]] 1 [] := ⟨rfl, by as_aux_lemma => kernel_rfl⟩

theorem Rstmts_run (l : List Vr) (us : List Un) (hks : ksL l = some us) : ∀ (N : Nat) (t : List St), totL t ≤ N → ∀ (H0 : List AObj), ARun Try.prog 67 [.rs 5 (l.map encV), .rs 13 (t.map encS)] H0 (.ret (.i (stSL us t)) H0) := by
  intro N
  induction N with
  | zero =>
    intro t hN H0
    have hl : t = [] := by have := len_totL t; exact List.eq_nil_of_length_eq_zero (by omega)
    subst hl
    (refine ARun.intro Try.func67 rfl Try.call67 Try.ntmps67 Try.results67 ?_; simp only [List.length_cons, List.length_nil, List.length_map, Nat.reduceAdd, Nat.reduceSub, List.replicate_succ, List.replicate_zero, List.cons_append, List.nil_append])
    (refine wk ?_; (repeat' first | exact True.intro | refine Lf.mk ?_ ?_); all_goals intro hP)
    refine awp_loop 1 ?_
    unfold AWLoop
    (refine wk ?_; (repeat' first | exact True.intro | refine Lf.mk ?_ ?_); all_goals intro hP)
    (refine resX ?_; try exact True.intro)
    all_goals simp [stSL]
  | succ N ihN =>
    intro t hN H0
    (refine ARun.intro Try.func67 rfl Try.call67 Try.ntmps67 Try.results67 ?_; simp only [List.length_cons, List.length_nil, List.length_map, Nat.reduceAdd, Nat.reduceSub, List.replicate_succ, List.replicate_zero, List.cons_append, List.nil_append])
    refine awp_len 1 rfl fun hlen => ?_
    rw [List.length_map] at hlen
    (refine wk ?_; (repeat' first | exact True.intro | refine Lf.mk ?_ ?_); all_goals intro hP)
    refine awp_loop_ind (σ := Nat) (fun s => t.length - s) (fun s => s ≤ t.length ∧ stSL us t = stSL us (t.drop s))
      (fun s => (.rs 5 (l.map encV) :: .rs 13 (t.map encS) :: .any :: .any :: .any :: .i s :: .any :: .any :: .any :: .any :: .any :: .any :: .any :: .any :: .any :: .any :: .any :: .any :: .any :: .any :: .any :: .any :: []))
      (fun s => H0) 0 ⟨Nat.zero_le _, by simp⟩ (by (refine fgtX ?_; try exact True.intro)) ?_
    rintro i ⟨h1, h4⟩
    cases hr : t.drop i with
    | nil =>
      have hlt := drop_nil hr
      rw [hr, stSL] at h4
      (have ww1 := hlt; refine wk ?_; clear ww1; (repeat' first | exact True.intro | refine Lf.mk ?_ ?_); all_goals intro hP)
      (refine resX ?_; try exact True.intro)
      rw [h4]
    | cons k rest =>
      obtain ⟨hk, hlt, hd, hm⟩ := drop_cons hr
      have hmm := totL_mem hm
      rw [tot_eq] at hmm
      have hs := fun H0 => Rstmt_run l us hks k (fun H0 => ihN k.thn (by omega) H0) (fun H0 => ihN k.els (by omega) H0) H0
      rw [hr] at h4
      simp only [stSL] at h4
      by_cases h0 : stS us k = 0
      · have h0' : (stS us k != 0) = false := by simp [h0]
        rw [if_pos h0] at h4
        (have ww1 := hlt; have ww2 := hk; have ww3 := @encS_eq; have ww4 := h0'; have cc1 := fun z1 => hs z1; refine wk ?_; clear ww1 ww2 ww3 ww4 cc1; (repeat' first | exact True.intro | refine Lf.mk ?_ ?_); all_goals intro hP)
        refine ⟨i + 1, by omega, ⟨by omega, by rw [h4, hd]⟩, ?_⟩
        (refine dropX ?_; try exact True.intro)
        simp [wrap_of (n := (i : Int) + 1) (by omega) (by omega)]
      · have h0' : (stS us k != 0) = true := by simpa using h0
        rw [if_neg h0] at h4
        (have ww1 := hlt; have ww2 := hk; have ww3 := @encS_eq; have ww4 := h0'; have cc1 := fun z1 => hs z1; refine wk ?_; clear ww1 ww2 ww3 ww4 cc1; (repeat' first | exact True.intro | refine Lf.mk ?_ ?_); all_goals intro hP)
        (refine resX ?_; try exact True.intro)
        rw [h4]

theorem RHandler_run (l : List Vr) (us : List Un) (hks : ksL l = some us) (t : List St) (hM : manyL t ≤ 1100000) (H0 : List AObj) : ARun Try.prog 59 [.rs 5 (l.map encV), .rs 13 (t.map encS)] H0 (.ret (.i (handS us t)) H0) := by
  have hm := fun H0 => RMany_run _ t (Nat.le_refl _) hM 100 H0 (by omega) (by omega)
  have hg := mnL_gt t 100
  have hs := fun H0 => RShort_run _ t (Nat.le_refl _) H0
  have ht := fun H0 => Rstmts_run l us hks _ t (Nat.le_refl _) H0
  unfold handS
  by_cases h : 100 < mnL t 100 0
  · have : 100 < manyL t := by omega
    simp only [this, if_true]
    (refine ARun.intro Try.func59 rfl Try.call59 Try.ntmps59 Try.results59 ?_; simp only [List.length_cons, List.length_nil, List.length_map, Nat.reduceAdd, Nat.reduceSub, List.replicate_succ, List.replicate_zero, List.cons_append, List.nil_append])
    (have ww1 := h; have cc1 := fun z1 => hm z1; refine wk ?_; clear ww1 cc1; (repeat' first | exact True.intro | refine Lf.mk ?_ ?_); all_goals intro hP)
    (refine resX ?_; try exact True.intro)
  · have : ¬ 100 < manyL t := by omega
    simp only [this, if_false]
    cases hS : smSL t with
    | false =>
      simp only [hS] at hs
      (refine ARun.intro Try.func59 rfl Try.call59 Try.ntmps59 Try.results59 ?_; simp only [List.length_cons, List.length_nil, List.length_map, Nat.reduceAdd, Nat.reduceSub, List.replicate_succ, List.replicate_zero, List.cons_append, List.nil_append])
      (have ww1 := h; have cc1 := fun z1 => hm z1; have cc2 := fun z1 => hs z1; refine wk ?_; clear ww1 cc1 cc2; (repeat' first | exact True.intro | refine Lf.mk ?_ ?_); all_goals intro hP)
      (refine resX ?_; try exact True.intro)
    | true =>
      simp only [hS] at hs
      (refine ARun.intro Try.func59 rfl Try.call59 Try.ntmps59 Try.results59 ?_; simp only [List.length_cons, List.length_nil, List.length_map, Nat.reduceAdd, Nat.reduceSub, List.replicate_succ, List.replicate_zero, List.cons_append, List.nil_append])
      (have ww1 := h; have cc1 := fun z1 => hm z1; have cc2 := fun z1 => hs z1; have cc3 := fun z1 => ht z1; refine wk ?_; clear ww1 cc1 cc2 cc3; (repeat' first | exact True.intro | refine Lf.mk ?_ ?_); all_goals intro hP)
      (refine resX ?_; try exact True.intro)

theorem RCheck_run (p : Prg) (hp : fine1 p) (H0 : List AObj) : ARun Try.prog 34 [.ag (cP p)] H0 (.ret (ansC (checkS p)) H0) := by
  obtain ⟨q0, q1, q2, q3, q4, q5⟩ := hp
  have hv := fun H0 => RVars_run p.vars q5 H0
  unfold varsB at hv
  unfold checkS
  cases hks : ksL p.vars with
  | none =>
    simp only [hks] at hv
    (refine ARun.intro Try.func34 rfl Try.call34 Try.ntmps34 Try.results34 ?_; simp only [List.length_cons, List.length_nil, List.length_map, Nat.reduceAdd, Nat.reduceSub, List.replicate_succ, List.replicate_zero, List.cons_append, List.nil_append])
    (have rr1 := dr34_7_U26; have cc1 := fun z1 => hv z1; refine wk ?_; clear rr1 cc1; (repeat' first | exact True.intro | refine Lf.mk ?_ ?_); all_goals intro hP)
    (refine resX ?_; try exact True.intro)
    all_goals simp [ansC]
  | some us =>
    simp only [hks] at hv
    by_cases h12 : 12 < p.vars.length
    · have h12' : decide ((p.vars.length : Int) ≤ 12) = false := by simp; omega
      simp only [h12, if_true]
      (refine ARun.intro Try.func34 rfl Try.call34 Try.ntmps34 Try.results34 ?_; simp only [List.length_cons, List.length_nil, List.length_map, Nat.reduceAdd, Nat.reduceSub, List.replicate_succ, List.replicate_zero, List.cons_append, List.nil_append])
      (have rr1 := dr34_7_U26; have ww1 := h12'; have cc1 := fun z1 => hv z1; refine wk ?_; clear rr1 ww1 cc1; (repeat' first | exact True.intro | refine Lf.mk ?_ ?_); all_goals intro hP)
      (refine resX ?_; try exact True.intro)
      all_goals simp [ansC]
    · have h12' : decide ((p.vars.length : Int) ≤ 12) = true := by simp; omega
      simp only [h12, if_false]
      have c0 := fun H0 => RHandler_run p.vars us hks p.on0 q0 H0
      have c1 := fun H0 => RHandler_run p.vars us hks p.on1 q1 H0
      have c2 := fun H0 => RHandler_run p.vars us hks p.on2 q2 H0
      have c3 := fun H0 => RHandler_run p.vars us hks p.on3 q3 H0
      have c4 := fun H0 => RHandler_run p.vars us hks p.on4 q4 H0
      unfold evS
      (refine ARun.intro Try.func34 rfl Try.call34 Try.ntmps34 Try.results34 ?_; simp only [List.length_cons, List.length_nil, List.length_map, Nat.reduceAdd, Nat.reduceSub, List.replicate_succ, List.replicate_zero, List.cons_append, List.nil_append])
      (have rr1 := dr34_7_U26; have ww1 := h12'; have cc1 := fun z1 => hv z1; refine wk ?_; clear rr1 ww1 cc1; (repeat' first | exact True.intro | refine Lf.mk ?_ ?_); all_goals intro hP)
      refine awp_loop 6 ?_
      (have rr1 := dr34_7_U26; have cc1 := fun z1 => c0 z1; have cc2 := fun z1 => c1 z1; have cc3 := fun z1 => c2 z1; have cc4 := fun z1 => c3 z1; have cc5 := fun z1 => c4 z1; refine wk ?_; clear rr1 cc1 cc2 cc3 cc4 cc5; (repeat' first | exact True.intro | refine Lf.mk ?_ ?_); all_goals intro hP)
      all_goals
        (refine resX ?_; try exact True.intro)
        simp [ansC, *]

def usableB (l : List Vr) (a b : Ex) : Bool := decide (l.length ≤ 30) && decide (size a 60 + size b 60 ≤ 59)
end Go.Proofs.Ytiifbdkedainnaa.Y

/- Plain laws: code for a stack machine: what is valid, how it runs. -/
set_option linter.unusedVariables false
namespace Go.Proofs.Ytiifbdkedainnaa.AL
structure Ins where
  op : Int
  n : Int
  rel : Int
  deriving DecidableEq
abbrev cI (x : Ins) : List PV := [.i x.op, .i x.n, .i x.rel]
def encI (x : Ins) : List PV := cI x
theorem encI_eq (x : Ins) : encI x = cI x := rfl
structure Cod where
  c0 : List Ins
  c1 : List Ins
  c2 : List Ins
  c3 : List Ins
  c4 : List Ins
abbrev cC (c : Cod) : List PV := [.rs 3 (c.c0.map encI), .rs 3 (c.c1.map encI), .rs 3 (c.c2.map encI), .rs 3 (c.c3.map encI), .rs 3 (c.c4.map encI)]
structure Cal where
  ev : Int
  i0 : Int
  i1 : Int
  i2 : Int
  i3 : Int
abbrev cL (c : Cal) : List PV := [.i c.ev, .i c.i0, .i c.i1, .i c.i2, .i c.i3]
abbrev rI (l : List Int) : List (List PV) := l.map fun n => [.i n]

def maxV : Int := 1000000000000
/-- An instruction is as it must be: index i, so many instructions, so many variables. -/
def insOk (x : Ins) (i len vars : Int) : Bool :=
  if x.op = 12 then decide (i < x.n ∧ x.n ≤ len ∧ 1 ≤ x.rel ∧ x.rel ≤ 6)
  else decide (x.rel = 0) && (if x.op = 1 then decide (-1000000000000 ≤ x.n ∧ x.n ≤ 1000000000000) else if x.op = 2 ∨ x.op = 11 then decide (0 ≤ x.n ∧ x.n < vars) else if x.op = 3 then decide (0 ≤ x.n ∧ x.n < 4)
    else if x.op = 13 then decide (i < x.n ∧ x.n ≤ len) else decide (x.n = 0 ∧ 4 ≤ x.op ∧ x.op ≤ 10))
def takes (op : Int) : Int := if op = 1 ∨ op = 2 ∨ op = 3 ∨ op = 13 then 0 else if op = 11 then 1 else 2
def puts (op : Int) : Int := if op = 11 ∨ op = 12 ∨ op = 13 then 0 else 1
theorem insOk_op {x : Ins} {i len vars : Int} (h : insOk x i len vars = true) : 1 ≤ x.op ∧ x.op ≤ 13 := by
  unfold insOk at h
  repeat' split at h
  all_goals simp at h
  all_goals omega

/-- A height is reached: none if it was another one. -/
def reachS (hs : List Int) (at' : Nat) (h : Int) : Option (List Int) := match hs[at']? with
  | none => none
  | some y => if y = -1 ∨ y = h then some (hs.set at' h) else none
/-- The heights behind one instruction; none if it is not valid. -/
def hStep (len vars : Int) (x : Ins) (i : Nat) (hs : List Int) : Option (List Int) := match hs[i]? with
  | none => none
  | some y => if y = -1 ∨ insOk x i len vars = false ∨ y < takes x.op then none else
    if 64 < y - takes x.op + puts x.op then none else
    if x.op = 12 then (match reachS hs x.n.toNat (y - takes x.op + puts x.op) with
      | none => none
      | some hs1 => reachS hs1 (i + 1) (y - takes x.op + puts x.op))
    else if x.op = 13 then reachS hs x.n.toNat (y - takes x.op + puts x.op)
    else reachS hs (i + 1) (y - takes x.op + puts x.op)
def hLoop (len vars : Int) : List Ins → Nat → List Int → Bool
  | [], i, hs => match hs[i]? with
    | some y => decide (y = 0)
    | none => false
  | x :: rest, i, hs => match hStep len vars x i hs with
    | none => false
    | some hs' => hLoop len vars rest (i + 1) hs'
def verH (l : List Ins) (vars : Int) : Bool := decide (l.length ≤ 4000) && hLoop l.length vars l 0 (0 :: List.replicate l.length (-1))
def verC (c : Cod) (vars : Int) : Bool := decide (0 ≤ vars ∧ vars ≤ 12) && (verH c.c0 vars && (verH c.c1 vars && (verH c.c2 vars && (verH c.c3 vars && verH c.c4 vars))))
theorem reachS_len {hs hs' : List Int} {a : Nat} {h : Int} (e : reachS hs a h = some hs') : hs'.length = hs.length := by
  unfold reachS at e
  split at e
  · cases e
  · split at e
    · simp only [Option.some.injEq] at e; subst e; simp
    · cases e
theorem hStep_len {len vars : Int} {x : Ins} {i : Nat} {hs hs' : List Int} (e : hStep len vars x i hs = some hs') : hs'.length = hs.length := by
  unfold hStep at e
  split at e
  · cases e
  · split at e
    · cases e
    · split at e
      · cases e
      · split at e
        · split at e
          · cases e
          · rename_i hs1 h1
            rw [reachS_len e, reachS_len h1]
        · split at e
          · exact reachS_len e
          · exact reachS_len e
end Go.Proofs.Ytiifbdkedainnaa.AL
namespace Go.Proofs.Ytiifbdkedainnaa.AL
def prodS (a b : Int) : Int := if a = 0 then 0 else if b < (-1000000000000 : Int).tdiv (if a < -a then -a else a) ∨ (1000000000000 : Int).tdiv (if a < -a then -a else a) < b then 1000000000001 else a * b
def downS (a b : Int) : Int := if a.tmod b ≠ 0 ∧ (decide (a < 0) != decide (b < 0)) = true then a.tdiv b - 1 else a.tdiv b
/-- A value, or the error of one. -/
def valS (n : Int) : Except Int Int := if -1000000000000 ≤ n ∧ n ≤ 1000000000000 then .ok n else .error 3
def calcS (op a b : Int) : Except Int Int :=
  if op = 4 then valS (a + b) else if op = 5 then valS (a - b) else if op = 6 then valS (prodS a b) else if op = 9 then valS (if b < a then b else a) else if op = 10 then valS (if a < b then b else a)
  else if b = 0 then .error 14 else if op = 8 then valS (-downS (-a) b) else valS (downS a b)
def holdsS (a rel b : Int) : Bool := if rel = 1 then decide (a < b) else if rel = 2 then decide (a ≤ b) else if rel = 3 then decide (b < a) else if rel = 4 then decide (b ≤ a) else if rel = 5 then a == b else a != b
abbrev isV (n : Int) : Prop := -1000000000000 ≤ n ∧ n ≤ 1000000000000
theorem tdiv_bd {a b : Int} (h : isV a) (hb : b ≠ 0) : isV (a.tdiv b) := by
  have h1 : (a.tdiv b).natAbs ≤ a.natAbs := by rw [Int.natAbs_tdiv]; exact Nat.div_le_self _ _
  omega
theorem downS_bd {a b : Int} (h : isV a) (hb : b ≠ 0) : -1000000000001 ≤ downS a b ∧ downS a b ≤ 1000000000000 := by
  have := tdiv_bd h hb
  unfold downS
  split <;> omega
end Go.Proofs.Ytiifbdkedainnaa.AL
namespace Go.Proofs.Ytiifbdkedainnaa.AL
theorem prod_fits {a b m : Int} (hm : (if a < -a then -a else a) = m) (hp : 0 < m) (h1 : (-1000000000000 : Int).tdiv m ≤ b) (h2 : b ≤ (1000000000000 : Int).tdiv m) : -1000000000000 ≤ a * b ∧ a * b ≤ 1000000000000 := by
  have hma : m = a ∨ m = -a := by rw [← hm]; split <;> omega
  have e0 : (1000000000000 : Int).tdiv m = 1000000000000 / m := Int.tdiv_eq_ediv_of_nonneg (by omega)
  have e1 : (1000000000000 : Int) / m * m ≤ 1000000000000 := Int.ediv_mul_le _ (by omega)
  have e2 : (-1000000000000 : Int).tdiv m = -((1000000000000 : Int).tdiv m) := Int.neg_tdiv _ _
  rw [e2, e0] at h1
  rw [e0] at h2
  generalize (1000000000000 : Int) / m = q at *
  have h3 := Int.mul_le_mul_of_nonneg_right h2 (show 0 ≤ m by omega)
  have h4 := Int.mul_le_mul_of_nonneg_right h1 (show 0 ≤ m by omega)
  rw [Int.neg_mul] at h4
  rcases hma with h | h
  · rw [h, Int.mul_comm b a] at h3 h4
    rw [h] at e1
    omega
  · rw [h] at h3 h4 e1
    simp only [Int.mul_neg, Int.neg_neg] at h3 h4 e1
    rw [Int.mul_comm b a] at h3 h4
    omega
end Go.Proofs.Ytiifbdkedainnaa.AL
namespace Go.Proofs.Ytiifbdkedainnaa.AL
theorem prodS_out {a b m : Int} (h0 : ¬ a = 0) (hm : (if a < -a then -a else a) = m) (h : b < (-1000000000000 : Int).tdiv m ∨ (1000000000000 : Int).tdiv m < b) : prodS a b = 1000000000001 := by
  unfold prodS; rw [if_neg h0, hm, if_pos h]
theorem prodS_in {a b m : Int} (h0 : ¬ a = 0) (hm : (if a < -a then -a else a) = m) (h : ¬ (b < (-1000000000000 : Int).tdiv m ∨ (1000000000000 : Int).tdiv m < b)) : prodS a b = a * b := by
  unfold prodS; rw [if_neg h0, hm, if_neg h]
end Go.Proofs.Ytiifbdkedainnaa.AL
namespace Go.Proofs.Ytiifbdkedainnaa.AL
theorem valS_ok {n v : Int} (h : valS n = .ok v) : isV n ∧ v = n := by
  unfold valS at h; split at h
  · cases h; exact ⟨by assumption, rfl⟩
  · cases h
theorem valS_err {n e : Int} (h : valS n = .error e) : ¬ isV n ∧ e = 3 := by
  unfold valS at h; split at h
  · cases h
  · cases h; exact ⟨by assumption, rfl⟩
theorem calcS_isV {op a b v : Int} (h : calcS op a b = .ok v) : isV v := by
  unfold calcS at h
  repeat' split at h
  all_goals first | (cases h; done) | (obtain ⟨hv, rfl⟩ := valS_ok h; exact hv)
end Go.Proofs.Ytiifbdkedainnaa.AL

/- The stack machine's object in memory. -/
set_option linter.unusedVariables false
set_option linter.unusedSectionVars false
namespace Go.Proofs.Ytiifbdkedainnaa.AL
/-- A machine: variables, the state's row, inputs, stack, height, place, steps. -/
def mc (vs : List Vr) (is n : Nat) (i0 i1 i2 i3 : Int) (stk : List Int) (h at' st : Int) : List AV :=
  .rs 5 (vs.map encV) :: .os is 0 n n :: .i i0 :: .i i1 :: .i i2 :: .i i3 :: (stk.map AV.i ++ [.i h, .i at', .i st])
section
variable {vs : List Vr} {is n : Nat} {i0 i1 i2 i3 : Int} {stk : List Int} {h at' st : Int}
theorem mc_len (hs : stk.length = 64) : (mc vs is n i0 i1 i2 i3 stk h at' st).length = 73 := by simp [mc, hs]
theorem mc_vars : (mc vs is n i0 i1 i2 i3 stk h at' st)[0]? = some (.rs 5 (vs.map encV)) := rfl
theorem mc_state : (mc vs is n i0 i1 i2 i3 stk h at' st)[1]? = some (.os is 0 n n) := rfl
theorem mc_in {k : Nat} (hk : k < 4) : (mc vs is n i0 i1 i2 i3 stk h at' st)[2 + k]? = some (.i (if k = 0 then i0 else if k = 1 then i1 else if k = 2 then i2 else i3)) := by
  have : k = 0 ∨ k = 1 ∨ k = 2 ∨ k = 3 := by omega
  rcases this with rfl | rfl | rfl | rfl <;> rfl
theorem mc_stk {k : Nat} {v : Int} (hk : stk[k]? = some v) : (mc vs is n i0 i1 i2 i3 stk h at' st)[6 + k]? = some (.i v) := by
  have hl := (List.getElem?_eq_some_iff.1 hk).1
  rw [Nat.add_comm]
  simp only [mc, List.getElem?_cons_succ]
  rw [List.getElem?_append_left (by simpa using hl), List.getElem?_map, hk]; rfl
theorem mc_h (hs : stk.length = 64) : (mc vs is n i0 i1 i2 i3 stk h at' st)[70]? = some (.i h) := by
  simp only [mc, List.getElem?_cons_succ]
  rw [List.getElem?_append_right (by simp [hs])]; simp [hs]
theorem mc_at (hs : stk.length = 64) : (mc vs is n i0 i1 i2 i3 stk h at' st)[71]? = some (.i at') := by
  simp only [mc, List.getElem?_cons_succ]
  rw [List.getElem?_append_right (by simp [hs])]; simp [hs]
theorem mc_st (hs : stk.length = 64) : (mc vs is n i0 i1 i2 i3 stk h at' st)[72]? = some (.i st) := by
  simp only [mc, List.getElem?_cons_succ]
  rw [List.getElem?_append_right (by simp [hs])]; simp [hs]
theorem splice_set {k : Nat} {l : List AV} {x : AV} (hk : k < l.length) : aSplice k [x] l = l.set k x := by
  unfold aSplice
  rw [List.set_eq_take_append_cons_drop, if_pos hk]
  simp
theorem take_drop_set {k : Nat} {l : List AV} {x : AV} (hk : k < l.length) : l.take k ++ (x :: l.drop (k + 1)) = l.set k x := by
  rw [List.set_eq_take_append_cons_drop, if_pos hk]
theorem mc_push {k : Nat} {x : Int} (hs : stk.length = 64) (hk : k < 64) : List.take (6 + k) (mc vs is n i0 i1 i2 i3 stk h at' st) ++ (.pv (.sc (.int .i64 x)) :: List.drop (6 + (k + 1)) (mc vs is n i0 i1 i2 i3 stk h at' st)) = mc vs is n i0 i1 i2 i3 (stk.set k x) h at' st := by
  rw [show 6 + (k + 1) = (6 + k) + 1 by omega, take_drop_set (by rw [mc_len hs]; omega), Nat.add_comm]
  simp only [mc, List.set_cons_succ]
  rw [List.set_append_left (h := by simpa [hs] using hk), List.map_set]
theorem mc_seth {x : Int} (hs : stk.length = 64) : List.take 70 (mc vs is n i0 i1 i2 i3 stk h at' st) ++ (.pv (.sc (.int .i64 x)) :: List.drop 71 (mc vs is n i0 i1 i2 i3 stk h at' st)) = mc vs is n i0 i1 i2 i3 stk x at' st := by
  rw [take_drop_set (by rw [mc_len hs]; omega)]
  simp only [mc, List.set_cons_succ]
  rw [List.set_append_right (h := by simp [hs])]; simp [hs]
theorem mc_setat {x : Int} (hs : stk.length = 64) : List.take 71 (mc vs is n i0 i1 i2 i3 stk h at' st) ++ (.pv (.sc (.int .i64 x)) :: List.drop 72 (mc vs is n i0 i1 i2 i3 stk h at' st)) = mc vs is n i0 i1 i2 i3 stk h x st := by
  rw [take_drop_set (by rw [mc_len hs]; omega)]
  simp only [mc, List.set_cons_succ]
  rw [List.set_append_right (h := by simp [hs])]; simp [hs]
theorem mc_setst {x : Int} (hs : stk.length = 64) : List.take 72 (mc vs is n i0 i1 i2 i3 stk h at' st) ++ (.pv (.sc (.int .i64 x)) :: List.drop 73 (mc vs is n i0 i1 i2 i3 stk h at' st)) = mc vs is n i0 i1 i2 i3 stk h at' x := by
  rw [take_drop_set (by rw [mc_len hs]; omega)]
  simp only [mc, List.set_cons_succ]
  rw [List.set_append_right (h := by simp [hs])]; simp [hs]
theorem mc_under {m t : Nat} (hi : is < m) : (AObj.cells t (mc vs is n i0 i1 i2 i3 stk h at' st)).under m := by
  intro c hc
  simp only [mc, List.mem_cons, List.mem_append, List.mem_map, List.not_mem_nil, or_false] at hc
  rcases hc with rfl | rfl | rfl | rfl | rfl | rfl | ⟨_, _, rfl⟩ | rfl | rfl | rfl <;> simp [AV.under, hi]
end
end Go.Proofs.Ytiifbdkedainnaa.AL
namespace Go.Proofs.Ytiifbdkedainnaa.AL
theorem row_set {now : List Int} {j : Nat} {x : Int} : (now.map fun v => [AV.i v]).set j [.pv (.sc (.int .i64 x))] = (now.set j x).map fun v => [AV.i v] := by rw [List.map_set]
theorem row_under {t sz m : Nat} {now : List Int} : (AObj.arr t sz (now.map fun v => [AV.i v])).under m := by
  simp [AObj.under, AV.under]
end Go.Proofs.Ytiifbdkedainnaa.AL
namespace Go.Proofs.Ytiifbdkedainnaa.AL
theorem mc_stkE {stk : List Int} {k : Nat} {v : Int} (hk : stk[k]? = some v) (vs : List Vr) (is n : Nat) (i0 i1 i2 i3 h at' st : Int) : (mc vs is n i0 i1 i2 i3 stk h at' st)[6 + k]? = some (.i v) := mc_stk hk
theorem mc_pushE {stk : List Int} {k : Nat} (hs : stk.length = 64) (hk : k < 64) (vs : List Vr) (is n : Nat) (i0 i1 i2 i3 h at' st x : Int) :
    List.take (6 + k) (mc vs is n i0 i1 i2 i3 stk h at' st) ++ (.pv (.sc (.int .i64 x)) :: List.drop (6 + (k + 1)) (mc vs is n i0 i1 i2 i3 stk h at' st)) = mc vs is n i0 i1 i2 i3 (stk.set k x) h at' st := mc_push hs hk
end Go.Proofs.Ytiifbdkedainnaa.AL

set_option maxHeartbeats 8000000
set_option maxRecDepth 20000
set_option linter.unusedVariables false
set_option linter.unusedSimpArgs false
namespace Go.Proofs.Ytiifbdkedainnaa.Y
open Go.Proofs.Ytiifbdkedainnaa.AL Go.Proofs Go
attribute [local irreducible] AWP AWL AWG AWR AWE AWX AWO AWSeq AWSG AWSR AWSO AWSE AWSF GoodP OGW OGR OGE OGX PGW PGR PGE Wk AWLoop AWPD AWLD

theorem inside_run (n lo hi : Int) (H0 : List AObj) : ARun Try.prog 28 [.i n, .i lo, .i hi] H0 (.ret (.b (decide (lo ≤ n) && decide (n ≤ hi))) H0) := by
  by_cases h1 : lo ≤ n
  · (refine ARun.intro Try.func28 rfl Try.call28 Try.ntmps28 Try.results28 ?_; simp only [List.length_cons, List.length_nil, List.length_map, Nat.reduceAdd, Nat.reduceSub, List.replicate_succ, List.replicate_zero, List.cons_append, List.nil_append])
    (have ww1 := h1; refine wk ?_; clear ww1; (repeat' first | exact True.intro | refine Lf.mk ?_ ?_); all_goals intro hP)
    (refine resX ?_; try exact True.intro)
    simp [h1]
  · (refine ARun.intro Try.func28 rfl Try.call28 Try.ntmps28 Try.results28 ?_; simp only [List.length_cons, List.length_nil, List.length_map, Nat.reduceAdd, Nat.reduceSub, List.replicate_succ, List.replicate_zero, List.cons_append, List.nil_append])
    (have ww1 := h1; refine wk ?_; clear ww1; (repeat' first | exact True.intro | refine Lf.mk ?_ ?_); all_goals intro hP)
    (refine resX ?_; try exact True.intro)
    simp [h1]
section
variable (vs : List Vr) (is n : Nat) (i0 i1 i2 i3 : Int) (stk : List Int) (hs : stk.length = 64) (at' st : Int) (id : Nat)
include hs
omit hs in
end
end Go.Proofs.Ytiifbdkedainnaa.Y

/- Plain laws: how code runs; the heights of its stack. -/
set_option linter.unusedVariables false
namespace Go.Proofs.Ytiifbdkedainnaa.AL
structure Cf where
  now : List Int
  stk : List Int
  at' : Nat
abbrev inS (i0 i1 i2 i3 : Int) (j : Nat) : Int := if j = 0 then i0 else if j = 1 then i1 else if j = 2 then i2 else i3
section
variable (vs : List Vr) (i0 i1 i2 i3 : Int)
def stepS (x : Ins) (c : Cf) : Except Int Cf :=
  if x.op = 1 then .ok ⟨c.now, c.stk ++ [x.n], c.at' + 1⟩
  else if x.op = 2 then .ok ⟨c.now, c.stk ++ [c.now.getD x.n.toNat 0], c.at' + 1⟩
  else if x.op = 3 then .ok ⟨c.now, c.stk ++ [inS i0 i1 i2 i3 x.n.toNat], c.at' + 1⟩
  else if x.op = 11 then (match vs[x.n.toNat]? with
    | none => .error 1
    | some vr => if vr.low ≤ c.stk.getD (c.stk.length - 1) 0 ∧ c.stk.getD (c.stk.length - 1) 0 ≤ vr.high then .ok ⟨c.now.set x.n.toNat (c.stk.getD (c.stk.length - 1) 0), c.stk.take (c.stk.length - 1), c.at' + 1⟩ else .error 15)
  else if x.op = 12 then .ok ⟨c.now, c.stk.take (c.stk.length - 2), if holdsS (c.stk.getD (c.stk.length - 2) 0) x.rel (c.stk.getD (c.stk.length - 1) 0) = true then c.at' + 1 else x.n.toNat⟩
  else if x.op = 13 then .ok ⟨c.now, c.stk, x.n.toNat⟩
  else match calcS x.op (c.stk.getD (c.stk.length - 2) 0) (c.stk.getD (c.stk.length - 1) 0) with
    | .ok v => .ok ⟨c.now, c.stk.take (c.stk.length - 2) ++ [v], c.at' + 1⟩
    | .error e => .error e
/-- How a handler runs, so many steps at most. -/
def traceS (l : List Ins) : Nat → Cf → Nat → Except Int (List Int) × Nat
  | 0, c, n => (.ok c.now, n)
  | f + 1, c, n => match l[c.at']? with
    | none => (.ok c.now, n)
    | some x => match stepS vs i0 i1 i2 i3 x c with
      | .error e => (.error e, n + 1)
      | .ok c' => traceS l f c' (n + 1)
end
/-- A configuration as it must be. -/
structure CfOk (vs : List Vr) (c : Cf) : Prop where
  now : c.now.length = vs.length
  nowV : ∀ v ∈ c.now, isV v
  stkV : ∀ v ∈ c.stk, isV v
/-- An instruction that finds what it needs. -/
structure At (vs : List Vr) (len : Int) (x : Ins) (c : Cf) : Prop where
  ok : insOk x c.at' len vs.length = true
  tk : takes x.op ≤ c.stk.length
  pt : (c.stk.length : Int) - takes x.op + puts x.op ≤ 64

theorem getD_mem {l : List Int} {k : Nat} (h : k < l.length) : l.getD k 0 ∈ l := by
  rw [List.getD_eq_getElem?_getD, List.getElem?_eq_getElem h]; simp
theorem calcS_err {op a b e : Int} (h : calcS op a b = .error e) : e = 3 ∨ e = 14 := by
  unfold calcS at h
  repeat' split at h
  all_goals first | (obtain ⟨_, rfl⟩ := valS_err h; exact .inl rfl) | (cases h; exact .inr rfl)

section
variable {vs : List Vr} {i0 i1 i2 i3 : Int} {x : Ins} {c c' : Cf} {len : Int}
theorem stepS_err {e : Int} (h : stepS vs i0 i1 i2 i3 x c = .error e) (ha : At vs len x c) : e = 3 ∨ e = 14 ∨ e = 15 := by
  unfold stepS at h
  repeat' split at h
  all_goals first | (cases h; done) | skip
  all_goals first | (cases h; exact .inr (.inr rfl)) | skip
  · rename_i h1 h2 h3 h4 o hn
    have := ha.ok
    unfold insOk at this
    rw [h4] at this
    simp at this
    rw [List.getElem?_eq_none_iff] at hn
    omega
  · rename_i hc
    cases h
    rcases calcS_err hc with h | h
    · exact .inl h
    · exact .inr (.inl h)
theorem stepS_ok (h : stepS vs i0 i1 i2 i3 x c = .ok c') (hc : CfOk vs c) (ha : At vs len x c) (hi : ∀ j, isV (inS i0 i1 i2 i3 j)) :
    CfOk vs c' ∧ (c'.stk.length : Int) = c.stk.length - takes x.op + puts x.op ∧ (c'.at' = c.at' + 1 ∧ x.op ≠ 13 ∨ c'.at' = x.n.toNat ∧ (x.op = 12 ∨ x.op = 13)) ∧ c.at' < c'.at' ∧ (c'.at' : Int) ≤ max len (c.at' + 1) := by
  have hok := ha.ok
  have htk := ha.tk
  have hop := insOk_op hok
  unfold insOk at hok
  unfold stepS at h
  by_cases h1 : x.op = 1
  · rw [if_pos h1] at h; cases h
    simp only [h1] at hok htk ⊢
    simp at hok
    refine ⟨⟨hc.now, hc.nowV, fun v hv => ?_⟩, by simp [takes, puts], by simp, by simp, by simp; omega⟩
    simp at hv; rcases hv with hv | rfl
    · exact hc.stkV v hv
    · exact ⟨hok.2.1, hok.2.2⟩
  rw [if_neg h1] at h
  by_cases h2 : x.op = 2
  · rw [if_pos h2] at h; cases h
    simp only [h2] at hok htk ⊢
    simp at hok
    have hl : x.n.toNat < c.now.length := by rw [hc.now]; omega
    refine ⟨⟨hc.now, hc.nowV, fun v hv => ?_⟩, by simp [takes, puts], by simp, by simp, by simp; omega⟩
    simp only [List.mem_append, List.mem_singleton] at hv; rcases hv with hv | rfl
    · exact hc.stkV v hv
    · exact hc.nowV _ (getD_mem hl)
  rw [if_neg h2] at h
  by_cases h3 : x.op = 3
  · rw [if_pos h3] at h; cases h
    simp only [h3] at hok htk ⊢
    refine ⟨⟨hc.now, hc.nowV, fun v hv => ?_⟩, by simp [takes, puts], by simp, by simp, by simp; omega⟩
    simp only [List.mem_append, List.mem_singleton] at hv; rcases hv with hv | rfl
    · exact hc.stkV v hv
    · exact hi _
  rw [if_neg h3] at h
  by_cases h11 : x.op = 11
  · rw [if_pos h11] at h
    simp only [h11] at hok htk ⊢
    simp [takes] at htk
    have hm := hc.stkV _ (getD_mem (l := c.stk) (k := c.stk.length - 1) (by omega))
    split at h
    · cases h
    · split at h
      · cases h
        refine ⟨⟨by simp [hc.now], fun v hv => ?_, fun v hv => hc.stkV v (List.mem_of_mem_take hv)⟩, by simp [takes, puts]; omega, by simp, by simp, by simp; omega⟩
        rcases List.mem_or_eq_of_mem_set hv with hv | rfl
        · exact hc.nowV v hv
        · exact hm
      · cases h
  rw [if_neg h11] at h
  by_cases h12 : x.op = 12
  · rw [if_pos h12] at h; cases h
    simp only [h12] at hok htk ⊢
    simp at hok
    simp [takes] at htk
    refine ⟨⟨hc.now, hc.nowV, fun v hv => hc.stkV v (List.mem_of_mem_take hv)⟩, by simp [takes, puts]; omega, ?_, ?_, ?_⟩
    all_goals (split <;> simp <;> omega)
  rw [if_neg h12] at h
  by_cases h13 : x.op = 13
  · rw [if_pos h13] at h; cases h
    simp only [h13] at hok htk ⊢
    simp at hok
    refine ⟨⟨hc.now, hc.nowV, hc.stkV⟩, by simp [takes, puts], by simp, by simp; omega, by simp; omega⟩
  rw [if_neg h13] at h
  have ht : takes x.op = 2 := by unfold takes; rw [if_neg (by omega), if_neg h11]
  have hp : puts x.op = 1 := by unfold puts; rw [if_neg (by omega)]
  rw [ht] at htk
  split at h
  · rename_i v hv
    cases h
    refine ⟨⟨hc.now, hc.nowV, fun u hu => ?_⟩, by simp [ht, hp]; omega, .inl ⟨rfl, h13⟩, by simp, by simp; omega⟩
    simp only [List.mem_append, List.mem_singleton] at hu; rcases hu with hu | rfl
    · exact hc.stkV u (List.mem_of_mem_take hu)
    · exact calcS_isV hv
  · cases h
end
end Go.Proofs.Ytiifbdkedainnaa.AL
namespace Go.Proofs.Ytiifbdkedainnaa.AL
theorem reachS_get {hs hs' : List Int} {a : Nat} {h : Int} (e : reachS hs a h = some hs') : hs'[a]? = some h ∧ ∀ (j : Nat) (y : Int), hs[j]? = some y → y ≠ -1 → hs'[j]? = some y := by
  unfold reachS at e
  split at e
  · cases e
  · rename_i y0 hy0
    have hl := (List.getElem?_eq_some_iff.1 hy0).1
    split at e
    · rename_i hc
      simp only [Option.some.injEq] at e; subst e
      refine ⟨by simp [hl], fun j y hj hy => ?_⟩
      rw [List.getElem?_set]
      split
      · rename_i haj; subst haj
        rw [hy0] at hj; cases hj
        rcases hc with h1 | h1
        · exact absurd h1 hy
        · rw [h1]
      · exact hj
    · cases e
structure CertAt (len vars : Int) (ht : Nat → Int) (x : Ins) (i : Nat) : Prop where
  ok : insOk x i len vars = true
  tk : takes x.op ≤ ht i
  pt : ht i - takes x.op + puts x.op ≤ 64
  nxt : x.op ≠ 13 → ht (i + 1) = ht i - takes x.op + puts x.op
  jmp : x.op = 12 ∨ x.op = 13 → ht x.n.toNat = ht i - takes x.op + puts x.op
theorem takes_nn (op : Int) : 0 ≤ takes op := by unfold takes; split <;> (try split) <;> omega
theorem puts_nn (op : Int) : 0 ≤ puts op := by unfold puts; split <;> omega
theorem hStep_get {len vars : Int} {x : Ins} {i : Nat} {hs hs' : List Int} (e : hStep len vars x i hs = some hs') :
    ∃ y, hs[i]? = some y ∧ y ≠ -1 ∧ insOk x i len vars = true ∧ takes x.op ≤ y ∧ y - takes x.op + puts x.op ≤ 64 ∧ (x.op ≠ 13 → hs'[i + 1]? = some (y - takes x.op + puts x.op)) ∧ (x.op = 12 ∨ x.op = 13 → hs'[x.n.toNat]? = some (y - takes x.op + puts x.op)) ∧ ∀ (j : Nat) (y : Int), hs[j]? = some y → y ≠ -1 → hs'[j]? = some y := by
  unfold hStep at e
  split at e
  · cases e
  · rename_i y hy
    split at e
    · cases e
    · rename_i h1
      split at e
      · cases e
      · rename_i h2
        have t1 := takes_nn x.op
        have t2 := puts_nn x.op
        refine ⟨y, hy, fun h => h1 (.inl h), ?_, by omega, by omega, ?_⟩
        · cases h : insOk x i len vars
          · exact absurd (.inr (.inl h)) h1
          · rfl
        split at e
        · rename_i h12
          split at e
          · cases e
          · rename_i hs1 e1
            obtain ⟨a1, a2⟩ := reachS_get e1
            obtain ⟨b1, b2⟩ := reachS_get e
            exact ⟨fun _ => b1, fun _ => b2 _ _ a1 (by omega), fun j y hj hy => b2 j y (a2 j y hj hy) hy⟩
        · rename_i h12
          split at e
          · rename_i h13
            obtain ⟨a1, a2⟩ := reachS_get e
            exact ⟨fun h => absurd h13 h, fun _ => a1, a2⟩
          · rename_i h13
            obtain ⟨a1, a2⟩ := reachS_get e
            exact ⟨fun _ => a1, fun h => by omega, a2⟩
theorem hLoop_cert {len vars : Int} : ∀ (rest : List Ins) (i : Nat) (hs : List Int), hLoop len vars rest i hs = true →
    ∃ ht : Nat → Int, (∀ (j : Nat) (y : Int), hs[j]? = some y → y ≠ -1 → ht j = y) ∧ (∀ (k : Nat) (x : Ins), rest[k]? = some x → CertAt len vars ht x (i + k)) ∧ ht (i + rest.length) = 0
  | [], i, hs, h => by
    unfold hLoop at h
    split at h
    · rename_i y hy
      have h : y = 0 := by simpa using h
      subst h
      exact ⟨fun j => (hs[j]?).getD 0, fun j y hj _ => by simp [hj], by simp, by simp [hy]⟩
    · cases h
  | x :: rest, i, hs, h => by
    unfold hLoop at h
    split at h
    · cases h
    · rename_i hs' e
      obtain ⟨ht, g1, g2, g3⟩ := hLoop_cert rest (i + 1) hs' h
      obtain ⟨y, a1, a2, a3, a4, a5, a6, a7, a8⟩ := hStep_get e
      have t1 := takes_nn x.op
      have t2 := puts_nn x.op
      have hy : ht i = y := g1 _ _ (a8 _ _ a1 a2) a2
      refine ⟨ht, fun j z hj hz => g1 _ _ (a8 _ _ hj hz) hz, fun k u hk => ?_, ?_⟩
      · cases k with
        | zero =>
          simp only [List.getElem?_cons_zero, Option.some.injEq] at hk; subst hk
          rw [Nat.add_zero]
          exact ⟨a3, by rw [hy]; exact a4, by rw [hy]; exact a5, fun h => by rw [hy]; exact g1 _ _ (a6 h) (by omega), fun h => by rw [hy]; exact g1 _ _ (a7 h) (by omega)⟩
        | succ k =>
          have := g2 k u (by simpa using hk)
          rwa [show i + 1 + k = i + (k + 1) by omega] at this
      · rw [← g3]; congr 1; simp only [List.length_cons]; omega
structure Cert (l : List Ins) (vars : Int) (ht : Nat → Int) : Prop where
  len : l.length ≤ 4000
  zero : ht 0 = 0
  at' : ∀ (i : Nat) (x : Ins), l[i]? = some x → CertAt l.length vars ht x i
  last : ht l.length = 0
theorem verH_cert {l : List Ins} {vars : Int} (h : verH l vars = true) : ∃ ht, Cert l vars ht := by
  unfold verH at h
  simp only [Bool.and_eq_true, decide_eq_true_eq] at h
  obtain ⟨ht, g1, g2, g3⟩ := hLoop_cert _ _ _ h.2
  refine ⟨ht, h.1, g1 0 0 (by simp) (by decide), fun i x hx => ?_, ?_⟩
  · have := g2 i x hx; rwa [Nat.zero_add] at this
  · rwa [Nat.zero_add] at g3
theorem stepS_cert {vs : List Vr} {i0 i1 i2 i3 : Int} {l : List Ins} {ht : Nat → Int} (hc : Cert l vs.length ht) {c c' : Cf} {x : Ins} (hx : l[c.at']? = some x) (hk : CfOk vs c) (hh : (c.stk.length : Int) = ht c.at') (hi : ∀ j, isV (inS i0 i1 i2 i3 j)) (h : stepS vs i0 i1 i2 i3 x c = .ok c') :
    CfOk vs c' ∧ (c'.stk.length : Int) = ht c'.at' ∧ c.at' < c'.at' ∧ c'.at' ≤ l.length := by
  have hlt := (List.getElem?_eq_some_iff.1 hx).1
  have hca := hc.at' _ _ hx
  obtain ⟨a1, a2, a3, a4, a5⟩ := stepS_ok h hk ⟨hca.ok, by rw [hh]; exact hca.tk, by rw [hh]; exact hca.pt⟩ hi
  refine ⟨a1, ?_, a4, by omega⟩
  rcases a3 with ⟨h1, h2⟩ | ⟨h1, h2⟩
  · rw [h1, hca.nxt h2]; omega
  · rw [h1, hca.jmp h2]; omega
theorem cert_At {vs : List Vr} {l : List Ins} {ht : Nat → Int} (hc : Cert l vs.length ht) {c : Cf} {x : Ins} (hx : l[c.at']? = some x) (hh : (c.stk.length : Int) = ht c.at') : At vs l.length x c := by
  have hca := hc.at' _ _ hx
  exact ⟨hca.ok, by rw [hh]; exact hca.tk, by rw [hh]; exact hca.pt⟩
end Go.Proofs.Ytiifbdkedainnaa.AL
namespace Go.Proofs.Ytiifbdkedainnaa.AL
theorem stk_get {stk s : List Int} (h : stk.take s.length = s) {j : Nat} (hj : j < s.length) : stk[j]? = some (s.getD j 0) := by
  have : (stk.take s.length)[j]? = s[j]? := by rw [h]
  rw [List.getElem?_take, if_pos hj] at this
  rw [this, List.getD_eq_getElem?_getD, List.getElem?_eq_getElem hj]; rfl
theorem stk_le {stk s : List Int} (h : stk.take s.length = s) : s.length ≤ stk.length := by
  have := congrArg List.length h
  rw [List.length_take] at this; omega
theorem stk_push {stk s : List Int} (h : stk.take s.length = s) (hl : s.length < stk.length) (v : Int) : (stk.set s.length v).take (s ++ [v]).length = s ++ [v] := by
  rw [List.length_append, List.length_singleton, List.take_add_one, List.take_set_of_le (Nat.le_refl _), h]
  simp [hl]
theorem stk_take {stk s : List Int} (h : stk.take s.length = s) (k : Nat) (hk : k ≤ s.length) : stk.take (s.take k).length = s.take k := by
  rw [List.length_take, Nat.min_eq_left hk]
  conv => rhs; rw [← h]
  rw [List.take_take, Nat.min_eq_left hk]
end Go.Proofs.Ytiifbdkedainnaa.AL

set_option maxHeartbeats 8000000
set_option maxRecDepth 20000
set_option linter.unusedVariables false
set_option linter.unusedSimpArgs false
set_option linter.unusedSectionVars false
namespace Go.Proofs.Ytiifbdkedainnaa.Y
open Go.Proofs.Ytiifbdkedainnaa.AL Go.Proofs Go
attribute [local irreducible] AWP AWL AWG AWR AWE AWX AWO AWSeq AWSG AWSR AWSO AWSE AWSF GoodP OGW OGR OGE OGX PGW PGR PGE Wk AWLoop AWPD AWLD

theorem cfits_run (op nn rel i len vars : Int) (hi : 0 ≤ i ∧ i < 10000) (hv : 0 ≤ vars ∧ vars ≤ 12) (H0 : List AObj) :
    ARun Try.prog 50 [.agg [.i op, .i nn, .i rel], .i i, .i len, .i vars] H0 (.ret (.b (insOk ⟨op, nn, rel⟩ i len vars)) H0) := by
  have w1 : IntKind.i64.wrap (vars - 1) = vars - 1 := wrap_of (by omega) (by omega)
  have w2 : IntKind.i64.wrap (i + 1) = i + 1 := wrap_of (by omega) (by omega)
  by_cases h1 : op = 1
  · subst h1
    by_cases hr : rel = 0
    · subst hr
      (refine ARun.intro Try.func50 rfl Try.call50 Try.ntmps50 Try.results50 ?_; simp only [List.length_cons, List.length_nil, List.length_map, Nat.reduceAdd, Nat.reduceSub, List.replicate_succ, List.replicate_zero, List.cons_append, List.nil_append])
      (have ww1 := w1; have ww2 := w2; have cc1 := fun z1 => inside_run nn (-1000000000000) (1000000000000) z1; refine wk ?_; clear ww1 ww2 cc1; (repeat' first | exact True.intro | refine Lf.mk ?_ ?_); all_goals intro hP)
      (refine resX ?_; try exact True.intro)
      all_goals simp [insOk]
      all_goals (try first | omega | (rw [Bool.eq_iff_iff]; simp; omega))
    · have hr' : (rel == 0) = false := by simpa using hr
      (refine ARun.intro Try.func50 rfl Try.call50 Try.ntmps50 Try.results50 ?_; simp only [List.length_cons, List.length_nil, List.length_map, Nat.reduceAdd, Nat.reduceSub, List.replicate_succ, List.replicate_zero, List.cons_append, List.nil_append])
      (have ww1 := w1; have ww2 := w2; have ww3 := hr'; refine wk ?_; clear ww1 ww2 ww3; (repeat' first | exact True.intro | refine Lf.mk ?_ ?_); all_goals intro hP)
      (refine resX ?_; try exact True.intro)
      all_goals simp [insOk, hr]
  by_cases h2 : op = 2
  · subst h2
    by_cases hr : rel = 0
    · subst hr
      (refine ARun.intro Try.func50 rfl Try.call50 Try.ntmps50 Try.results50 ?_; simp only [List.length_cons, List.length_nil, List.length_map, Nat.reduceAdd, Nat.reduceSub, List.replicate_succ, List.replicate_zero, List.cons_append, List.nil_append])
      (have ww1 := w1; have ww2 := w2; have cc1 := fun z1 => inside_run nn (0) (vars - 1) z1; refine wk ?_; clear ww1 ww2 cc1; (repeat' first | exact True.intro | refine Lf.mk ?_ ?_); all_goals intro hP)
      (refine resX ?_; try exact True.intro)
      all_goals simp [insOk]
      all_goals (try first | omega | (rw [Bool.eq_iff_iff]; simp; omega))
    · have hr' : (rel == 0) = false := by simpa using hr
      (refine ARun.intro Try.func50 rfl Try.call50 Try.ntmps50 Try.results50 ?_; simp only [List.length_cons, List.length_nil, List.length_map, Nat.reduceAdd, Nat.reduceSub, List.replicate_succ, List.replicate_zero, List.cons_append, List.nil_append])
      (have ww1 := w1; have ww2 := w2; have ww3 := hr'; refine wk ?_; clear ww1 ww2 ww3; (repeat' first | exact True.intro | refine Lf.mk ?_ ?_); all_goals intro hP)
      (refine resX ?_; try exact True.intro)
      all_goals simp [insOk, hr]
  by_cases h11 : op = 11
  · subst h11
    by_cases hr : rel = 0
    · subst hr
      (refine ARun.intro Try.func50 rfl Try.call50 Try.ntmps50 Try.results50 ?_; simp only [List.length_cons, List.length_nil, List.length_map, Nat.reduceAdd, Nat.reduceSub, List.replicate_succ, List.replicate_zero, List.cons_append, List.nil_append])
      (have ww1 := w1; have ww2 := w2; have cc1 := fun z1 => inside_run nn (0) (vars - 1) z1; refine wk ?_; clear ww1 ww2 cc1; (repeat' first | exact True.intro | refine Lf.mk ?_ ?_); all_goals intro hP)
      (refine resX ?_; try exact True.intro)
      all_goals simp [insOk]
      all_goals (try first | omega | (rw [Bool.eq_iff_iff]; simp; omega))
    · have hr' : (rel == 0) = false := by simpa using hr
      (refine ARun.intro Try.func50 rfl Try.call50 Try.ntmps50 Try.results50 ?_; simp only [List.length_cons, List.length_nil, List.length_map, Nat.reduceAdd, Nat.reduceSub, List.replicate_succ, List.replicate_zero, List.cons_append, List.nil_append])
      (have ww1 := w1; have ww2 := w2; have ww3 := hr'; refine wk ?_; clear ww1 ww2 ww3; (repeat' first | exact True.intro | refine Lf.mk ?_ ?_); all_goals intro hP)
      (refine resX ?_; try exact True.intro)
      all_goals simp [insOk, hr]
  by_cases h3 : op = 3
  · subst h3
    by_cases hr : rel = 0
    · subst hr
      (refine ARun.intro Try.func50 rfl Try.call50 Try.ntmps50 Try.results50 ?_; simp only [List.length_cons, List.length_nil, List.length_map, Nat.reduceAdd, Nat.reduceSub, List.replicate_succ, List.replicate_zero, List.cons_append, List.nil_append])
      (have ww1 := w1; have ww2 := w2; have cc1 := fun z1 => inside_run nn (0) (3) z1; refine wk ?_; clear ww1 ww2 cc1; (repeat' first | exact True.intro | refine Lf.mk ?_ ?_); all_goals intro hP)
      (refine resX ?_; try exact True.intro)
      all_goals simp [insOk]
      all_goals (try first | omega | (rw [Bool.eq_iff_iff]; simp; omega))
    · have hr' : (rel == 0) = false := by simpa using hr
      (refine ARun.intro Try.func50 rfl Try.call50 Try.ntmps50 Try.results50 ?_; simp only [List.length_cons, List.length_nil, List.length_map, Nat.reduceAdd, Nat.reduceSub, List.replicate_succ, List.replicate_zero, List.cons_append, List.nil_append])
      (have ww1 := w1; have ww2 := w2; have ww3 := hr'; refine wk ?_; clear ww1 ww2 ww3; (repeat' first | exact True.intro | refine Lf.mk ?_ ?_); all_goals intro hP)
      (refine resX ?_; try exact True.intro)
      all_goals simp [insOk, hr]
  by_cases h12 : op = 12
  · subst h12
    by_cases hd : i < nn ∧ nn ≤ len
    · have hin : (decide (i + 1 ≤ nn) && decide (nn ≤ len)) = true := by simp; omega
      have hc := inside_run nn (i + 1) len
      simp only [hin] at hc
      (refine ARun.intro Try.func50 rfl Try.call50 Try.ntmps50 Try.results50 ?_; simp only [List.length_cons, List.length_nil, List.length_map, Nat.reduceAdd, Nat.reduceSub, List.replicate_succ, List.replicate_zero, List.cons_append, List.nil_append])
      (have ww1 := w1; have ww2 := w2; have cc1 := fun z1 => hc z1; have cc2 := fun z1 => inside_run rel 1 6 z1; refine wk ?_; clear ww1 ww2 cc1 cc2; (repeat' first | exact True.intro | refine Lf.mk ?_ ?_); all_goals intro hP)
      (refine resX ?_; try exact True.intro)
      all_goals simp [insOk]
      all_goals (try first | omega | (rw [Bool.eq_iff_iff]; simp; omega))
    · have hin : (decide (i + 1 ≤ nn) && decide (nn ≤ len)) = false := by simp; omega
      have hc := inside_run nn (i + 1) len
      simp only [hin] at hc
      (refine ARun.intro Try.func50 rfl Try.call50 Try.ntmps50 Try.results50 ?_; simp only [List.length_cons, List.length_nil, List.length_map, Nat.reduceAdd, Nat.reduceSub, List.replicate_succ, List.replicate_zero, List.cons_append, List.nil_append])
      (have ww1 := w1; have ww2 := w2; have cc1 := fun z1 => hc z1; refine wk ?_; clear ww1 ww2 cc1; (repeat' first | exact True.intro | refine Lf.mk ?_ ?_); all_goals intro hP)
      (refine resX ?_; try exact True.intro)
      all_goals simp [insOk]
      all_goals (try first | omega | (rw [Bool.eq_iff_iff]; simp; omega))
  by_cases h13 : op = 13
  · subst h13
    by_cases hr : rel = 0
    · subst hr
      (refine ARun.intro Try.func50 rfl Try.call50 Try.ntmps50 Try.results50 ?_; simp only [List.length_cons, List.length_nil, List.length_map, Nat.reduceAdd, Nat.reduceSub, List.replicate_succ, List.replicate_zero, List.cons_append, List.nil_append])
      (have ww1 := w1; have ww2 := w2; have cc1 := fun z1 => inside_run nn (i + 1) (len) z1; refine wk ?_; clear ww1 ww2 cc1; (repeat' first | exact True.intro | refine Lf.mk ?_ ?_); all_goals intro hP)
      (refine resX ?_; try exact True.intro)
      all_goals simp [insOk]
      all_goals (try first | omega | (rw [Bool.eq_iff_iff]; simp; omega))
    · have hr' : (rel == 0) = false := by simpa using hr
      (refine ARun.intro Try.func50 rfl Try.call50 Try.ntmps50 Try.results50 ?_; simp only [List.length_cons, List.length_nil, List.length_map, Nat.reduceAdd, Nat.reduceSub, List.replicate_succ, List.replicate_zero, List.cons_append, List.nil_append])
      (have ww1 := w1; have ww2 := w2; have ww3 := hr'; refine wk ?_; clear ww1 ww2 ww3; (repeat' first | exact True.intro | refine Lf.mk ?_ ?_); all_goals intro hP)
      (refine resX ?_; try exact True.intro)
      all_goals simp [insOk, hr]
  have e1 : (op == 1) = false := by simpa using h1
  have e2 : (op == 2) = false := by simpa using h2
  have e11 : (op == 11) = false := by simpa using h11
  have e3 : (op == 3) = false := by simpa using h3
  have e12 : (op == 12) = false := by simpa using h12
  have e13 : (op == 13) = false := by simpa using h13
  by_cases hr : rel = 0
  · subst hr
    by_cases hn0 : nn = 0
    · subst hn0
      (refine ARun.intro Try.func50 rfl Try.call50 Try.ntmps50 Try.results50 ?_; simp only [List.length_cons, List.length_nil, List.length_map, Nat.reduceAdd, Nat.reduceSub, List.replicate_succ, List.replicate_zero, List.cons_append, List.nil_append])
      (have ww1 := w1; have ww2 := w2; have ww3 := e1; have ww4 := e2; have ww5 := e11; have ww6 := e3; have ww7 := e12; have ww8 := e13; have cc1 := fun z1 => inside_run op 4 10 z1; refine wk ?_; clear ww1 ww2 ww3 ww4 ww5 ww6 ww7 ww8 cc1; (repeat' first | exact True.intro | refine Lf.mk ?_ ?_); all_goals intro hP)
      (refine resX ?_; try exact True.intro)
      all_goals simp [insOk, h1, h2, h3, h11, h12, h13]
    · have hn' : (nn == 0) = false := by simpa using hn0
      (refine ARun.intro Try.func50 rfl Try.call50 Try.ntmps50 Try.results50 ?_; simp only [List.length_cons, List.length_nil, List.length_map, Nat.reduceAdd, Nat.reduceSub, List.replicate_succ, List.replicate_zero, List.cons_append, List.nil_append])
      (have ww1 := w1; have ww2 := w2; have ww3 := e1; have ww4 := e2; have ww5 := e11; have ww6 := e3; have ww7 := e12; have ww8 := e13; have ww9 := hn'; refine wk ?_; clear ww1 ww2 ww3 ww4 ww5 ww6 ww7 ww8 ww9; (repeat' first | exact True.intro | refine Lf.mk ?_ ?_); all_goals intro hP)
      (refine resX ?_; try exact True.intro)
      all_goals simp [insOk, h1, h2, h3, h11, h12, h13, hn0]
  · have hr' : (rel == 0) = false := by simpa using hr
    (refine ARun.intro Try.func50 rfl Try.call50 Try.ntmps50 Try.results50 ?_; simp only [List.length_cons, List.length_nil, List.length_map, Nat.reduceAdd, Nat.reduceSub, List.replicate_succ, List.replicate_zero, List.cons_append, List.nil_append])
    (have ww1 := w1; have ww2 := w2; have ww3 := e1; have ww4 := e2; have ww5 := e11; have ww6 := e3; have ww7 := e12; have ww8 := e13; have ww9 := hr'; refine wk ?_; clear ww1 ww2 ww3 ww4 ww5 ww6 ww7 ww8 ww9; (repeat' first | exact True.intro | refine Lf.mk ?_ ?_); all_goals intro hP)
    (refine resX ?_; try exact True.intro)
    all_goals simp [insOk, h1, h2, h3, h11, h12, h13, hr]
abbrev effP : List PV := [.i 0, .i 0, .i 0, .i 1, .i 0, .i 1, .i 0, .i 1, .i 2, .i 1, .i 2, .i 1, .i 2, .i 1, .i 2, .i 1, .i 2, .i 1, .i 2, .i 1, .i 2, .i 1, .i 1, .i 0, .i 2, .i 0, .i 0, .i 0]
theorem effects_run (H0 : List AObj) : ARun Try.prog 48 [] H0 (.ret (.agg (effP.map AV.pv)) H0) := by
  (refine ARun.intro Try.func48 rfl Try.call48 Try.ntmps48 Try.results48 ?_; simp only [List.length_cons, List.length_nil, List.length_map, Nat.reduceAdd, Nat.reduceSub, List.replicate_succ, List.replicate_zero, List.cons_append, List.nil_append])
  (refine wk ?_; (repeat' first | exact True.intro | refine Lf.mk ?_ ?_); all_goals intro hP)
  (refine resX ?_; try exact True.intro)
end Go.Proofs.Ytiifbdkedainnaa.Y

set_option maxHeartbeats 8000000
set_option maxRecDepth 20000
set_option linter.unusedVariables false
set_option linter.unusedSimpArgs false
set_option linter.unusedSectionVars false
namespace Go.Proofs.Ytiifbdkedainnaa.Y
open Go.Proofs.Ytiifbdkedainnaa.AL Go.Proofs Go
attribute [local irreducible] AWP AWL AWG AWR AWE AWX AWO AWSeq AWSG AWSR AWSO AWSE AWSF GoodP OGW OGR OGE OGX PGW PGR PGE Wk AWLoop AWPD AWLD

abbrev rW (now : List Int) : AObj := .arr 3 1 (now.map fun v => [AV.i v])
theorem reach_run (hs : List Int) (n : Nat) (hn' : hs.length = n) (a : Nat) (y h : Int) (hy : hs[a]? = some y) (t : TypeId) (cid rid : Nat) (H0 : List AObj) (hc : H0[cid]? = some (.cells t [.os rid 0 n n])) (hr : H0[rid]? = some (rW hs)) (hne : rid ≠ cid) :
    ARun Try.prog 49 [.i (a : Nat), .i h, .p cid 0] H0 (.ret (.b (y == -1 || y == h)) (H0.set rid (rW (hs.set a h)))) := by
  have han : (a : Int) < n := by have := (List.getElem?_eq_some_iff.1 hy).1; omega
  have hy' : (hs.map fun v => [AV.i v])[a]? = some [AV.i y] := by rw [List.getElem?_map, hy]; rfl
  by_cases h1 : y = -1
  · subst h1
    (refine ARun.intro Try.func49 rfl Try.call49 Try.ntmps49 Try.results49 ?_; simp only [List.length_cons, List.length_nil, List.length_map, Nat.reduceAdd, Nat.reduceSub, List.replicate_succ, List.replicate_zero, List.cons_append, List.nil_append])
    (have ww1 := hc; have ww2 := hr; have ww3 := getSet hr; have ww4 := han; have ww5 := hy; have ww6 := hy'; have ww7 := hn'; have ww8 := @row_set; refine wkS ?_; clear ww1 ww2 ww3 ww4 ww5 ww6 ww7 ww8; (repeat' first | exact True.intro | refine Lf.mk ?_ ?_); all_goals intro hP)
    ((try simp only [go_sem, Nat.reduceAdd, Nat.reduceSub, Nat.reduceMul, Nat.reduceLeDiff, Nat.reduceLT, Nat.reduceEqDiff, Int.reduceToNat, Int.reduceAdd, Int.reduceMul, Int.reduceSub, Int.reduceLT, Int.reduceLE, Int.reduceEq, Int.reduceNeg, Int.reduceBEq, Int.reduceBNe, ↓reduceIte, reduceCtorEq]); (first | refine ⟨_, rfl, _, rfl, Fin.set0 1 ?_ ?_⟩ | refine ⟨_, rfl, _, rfl, Fin.set 1 ?_ ?_⟩))
    · exact row_under
    · simp only [AV.low]; simp
  · have h1' : (y == -1) = false := by simpa using h1
    (refine ARun.intro Try.func49 rfl Try.call49 Try.ntmps49 Try.results49 ?_; simp only [List.length_cons, List.length_nil, List.length_map, Nat.reduceAdd, Nat.reduceSub, List.replicate_succ, List.replicate_zero, List.cons_append, List.nil_append])
    (have ww1 := hc; have ww2 := hr; have ww3 := getSet hr; have ww4 := han; have ww5 := hy; have ww6 := hy'; have ww7 := h1'; have ww8 := hn'; have ww9 := @row_set; refine wkS ?_; clear ww1 ww2 ww3 ww4 ww5 ww6 ww7 ww8 ww9; (repeat' first | exact True.intro | refine Lf.mk ?_ ?_); all_goals intro hP)
    ((try simp only [go_sem, Nat.reduceAdd, Nat.reduceSub, Nat.reduceMul, Nat.reduceLeDiff, Nat.reduceLT, Nat.reduceEqDiff, Int.reduceToNat, Int.reduceAdd, Int.reduceMul, Int.reduceSub, Int.reduceLT, Int.reduceLE, Int.reduceEq, Int.reduceNeg, Int.reduceBEq, Int.reduceBNe, ↓reduceIte, reduceCtorEq]); (first | refine ⟨_, rfl, _, rfl, Fin.set0 1 ?_ ?_⟩ | refine ⟨_, rfl, _, rfl, Fin.set 1 ?_ ?_⟩))
    · exact row_under
    · simp only [AV.low]; simp [h1]
end Go.Proofs.Ytiifbdkedainnaa.Y

/- Plain laws: the heights of a stack, step by step. -/
set_option linter.unusedVariables false
namespace Go.Proofs.Ytiifbdkedainnaa.AL
section
variable {len vars : Int} {x : Ins} {i : Nat} {hs : List Int} {y : Int}
theorem hLoop_cons (rest : List Ins) : hLoop len vars (x :: rest) i hs = match hStep len vars x i hs with
  | none => false
  | some hs' => hLoop len vars rest (i + 1) hs' := rfl
theorem hLoop_nil (hy : hs[i]? = some y) : hLoop len vars [] i hs = decide (y = 0) := by simp only [hLoop, hy]
theorem hStep_bad (hy : hs[i]? = some y) (h : y = -1 ∨ insOk x i len vars = false ∨ y < takes x.op) : hStep len vars x i hs = none := by
  simp only [hStep, hy, if_pos h]
theorem hStep_deep (hy : hs[i]? = some y) (h : 64 < y - takes x.op + puts x.op) : hStep len vars x i hs = none := by
  simp only [hStep, hy, if_pos h]
  split <;> rfl
theorem hStep_12 (hy : hs[i]? = some y) (h1 : ¬ (y = -1 ∨ insOk x i len vars = false ∨ y < takes x.op)) (h2 : ¬ 64 < y - takes x.op + puts x.op) (h : x.op = 12) :
    hStep len vars x i hs = match reachS hs x.n.toNat (y - takes x.op + puts x.op) with
      | none => none
      | some hs1 => reachS hs1 (i + 1) (y - takes x.op + puts x.op) := by
  simp only [hStep, hy, if_neg h1, if_neg h2, if_pos h]
  all_goals (cases reachS hs x.n.toNat (y - takes x.op + puts x.op) <;> rfl)
theorem hStep_13 (hy : hs[i]? = some y) (h1 : ¬ (y = -1 ∨ insOk x i len vars = false ∨ y < takes x.op)) (h2 : ¬ 64 < y - takes x.op + puts x.op) (h : x.op = 13) :
    hStep len vars x i hs = reachS hs x.n.toNat (y - takes x.op + puts x.op) := by
  simp only [hStep, hy, if_neg h1, if_neg h2, if_neg (show ¬ x.op = 12 by omega), if_pos h]
theorem hStep_go (hy : hs[i]? = some y) (h1 : ¬ (y = -1 ∨ insOk x i len vars = false ∨ y < takes x.op)) (h2 : ¬ 64 < y - takes x.op + puts x.op) (h : x.op ≠ 12) (h' : x.op ≠ 13) :
    hStep len vars x i hs = reachS hs (i + 1) (y - takes x.op + puts x.op) := by
  simp only [hStep, hy, if_neg h1, if_neg h2, if_neg h, if_neg h']
theorem reachS_ok {a : Nat} {h : Int} (hy : hs[a]? = some y) (hc : y = -1 ∨ y = h) : reachS hs a h = some (hs.set a h) := by
  simp only [reachS, hy, if_pos hc]
theorem reachS_no {a : Nat} {h : Int} (hy : hs[a]? = some y) (hc : ¬ (y = -1 ∨ y = h)) : reachS hs a h = none := by
  simp only [reachS, hy, if_neg hc]
end
/-- Heights as they may be. -/
def HsOk (hs : List Int) : Prop := ∀ y ∈ hs, -1 ≤ y ∧ y ≤ 64
theorem HsOk.get {hs : List Int} (h : HsOk hs) {i : Nat} {y : Int} (hy : hs[i]? = some y) : -1 ≤ y ∧ y ≤ 64 := h y (List.mem_of_getElem? hy)
theorem HsOk.set {hs : List Int} (h : HsOk hs) (a : Nat) {y : Int} (hy : -1 ≤ y ∧ y ≤ 64) : HsOk (hs.set a y) := by
  intro z hz
  rcases List.mem_or_eq_of_mem_set hz with hz | rfl
  · exact h z hz
  · exact hy
theorem HsOk.start (n : Nat) : HsOk (0 :: List.replicate n (-1)) := by
  intro y hy
  simp only [List.mem_cons, List.mem_replicate] at hy
  omega
theorem get_some {hs : List Int} {i : Nat} (h : i < hs.length) : ∃ y, hs[i]? = some y := ⟨hs[i], List.getElem?_eq_getElem h⟩
theorem fill_step {A B : List Int} (hl : A.length = B.length) {k : Nat} {x : Int} (hk : A[k]? = some x) : (A.take k ++ B.drop k).set k x = A.take (k + 1) ++ B.drop (k + 1) := by
  have hlt := (List.getElem?_eq_some_iff.1 hk).1
  have hx := (List.getElem?_eq_some_iff.1 hk).2
  rw [List.set_append_right (h := by rw [List.length_take]; omega), List.length_take, Nat.min_eq_left (by omega), Nat.sub_self, List.take_add_one, hk]
  rw [List.drop_eq_getElem_cons (show k < B.length by omega), List.set_cons_zero, Option.toList_some, List.append_assoc, List.singleton_append]
theorem insOk_jump {x : Ins} {i len vars : Int} (h : insOk x i len vars = true) (ho : x.op = 12 ∨ x.op = 13) : i < x.n ∧ x.n ≤ len := by
  unfold insOk at h
  rcases ho with ho | ho <;> simp [ho] at h <;> omega
theorem verH_eq {l : List Ins} {vars : Int} (h : l.length ≤ 4000) : verH l vars = hLoop l.length vars l 0 (0 :: List.replicate l.length (-1)) := by
  unfold verH; rw [decide_eq_true h, Bool.true_and]
end Go.Proofs.Ytiifbdkedainnaa.AL
namespace Go.Proofs.Ytiifbdkedainnaa.AL
theorem reachS_getD {hs : List Int} {a : Nat} {h : Int} (ha : a < hs.length) : reachS hs a h = if hs.getD a 0 = -1 ∨ hs.getD a 0 = h then some (hs.set a h) else none := by
  simp only [reachS, List.getD_eq_getElem?_getD, List.getElem?_eq_getElem ha, Option.getD_some]
theorem hStep_ok {len vars : Int} {x : Ins} {i : Nat} {hs : List Int} {y : Int} (hy : hs[i]? = some y) (hok : insOk x i len vars = true) (hl : (hs.length : Int) = len + 1) (hi : i + 1 < hs.length) :
    hStep len vars x i hs = if y = -1 ∨ y < takes x.op then none else if 64 < y - takes x.op + puts x.op then none else
      if x.op = 12 then (if hs.getD x.n.toNat 0 = -1 ∨ hs.getD x.n.toNat 0 = y - takes x.op + puts x.op then
        (if (hs.set x.n.toNat (y - takes x.op + puts x.op)).getD (i + 1) 0 = -1 ∨ (hs.set x.n.toNat (y - takes x.op + puts x.op)).getD (i + 1) 0 = y - takes x.op + puts x.op then some ((hs.set x.n.toNat (y - takes x.op + puts x.op)).set (i + 1) (y - takes x.op + puts x.op)) else none) else none)
      else if x.op = 13 then (if hs.getD x.n.toNat 0 = -1 ∨ hs.getD x.n.toNat 0 = y - takes x.op + puts x.op then some (hs.set x.n.toNat (y - takes x.op + puts x.op)) else none)
      else if hs.getD (i + 1) 0 = -1 ∨ hs.getD (i + 1) 0 = y - takes x.op + puts x.op then some (hs.set (i + 1) (y - takes x.op + puts x.op)) else none := by
  have hj := insOk_jump hok
  simp only [hStep, hy, hok, Bool.true_eq_false, false_or]
  split
  · rfl
  · split
    · rfl
    · split
      · rename_i h12
        have hn : x.n.toNat < hs.length := by have := hj (.inl h12); omega
        rw [reachS_getD hn]
        split
        · rename_i hs1 he
          split at he
          · cases he
          · rw [if_neg ‹_›]
        · rename_i hs1 he
          split at he
          · simp only [Option.some.injEq] at he; subst he
            rw [if_pos ‹_›, reachS_getD (by simpa using hi)]
          · cases he
      · split
        · rename_i h13
          have hn : x.n.toNat < hs.length := by have := hj (.inr h13); omega
          rw [reachS_getD hn]
        · rw [reachS_getD hi]
end Go.Proofs.Ytiifbdkedainnaa.AL
