/- Part 6 of the proofs of seat YtimmncjdknlegaaDoor: what the texts behind it lean on (abstract memory, walks of functions, plain laws). -/
import Derived.Test.YtimmncjdknlegaaDoorM5
import Derived.Test.YtimmncjdknlegaaDoorRows

set_option maxHeartbeats 8000000
set_option maxRecDepth 100000
set_option linter.unusedVariables false
set_option linter.unusedSimpArgs false
set_option linter.unusedSectionVars false
namespace Go.Proofs.YtimmncjdknlegaaDoor.Y
open Go.Proofs.YtimmncjdknlegaaDoor.AL Go.Proofs Go
attribute [local irreducible] AWP AWL AWG AWR AWE AWX AWO AWSeq AWSG AWSR AWSO AWSE AWSF GoodP OGW OGR OGE OGX PGW PGR PGE Wk AWLoop AWPD AWLD

def outT (r : Except Int (List Int) × Nat) : AV := .tup [.rs 1 (rI (runL r.1)), .i r.2, .i (runE r.1)]
def inC (i0 i1 i2 i3 : Int) : List AV := [.i i0, .i i1, .i i2, .i i3]
theorem inC_len {i0 i1 i2 i3 : Int} : (inC i0 i1 i2 i3).length = 4 := rfl
theorem inC_get {i0 i1 i2 i3 : Int} {k : Nat} (h : k < 4) : (inC i0 i1 i2 i3)[k]? = some (.i (inS i0 i1 i2 i3 k)) := by
  have : k = 0 ∨ k = 1 ∨ k = 2 ∨ k = 3 := by omega
  rcases this with rfl | rfl | rfl | rfl <;> rfl
theorem inC_under {i0 i1 i2 i3 : Int} {t : TypeId} {m : Nat} : (AObj.cells t (inC i0 i1 i2 i3)).under m := by
  intro c hc
  simp only [inC, List.mem_cons, List.not_mem_nil, or_false] at hc
  rcases hc with rfl | rfl | rfl | rfl <;> simp only [AV.under]
def calV (r : Except Int Int) : Int := match r with
  | .ok v => v
  | .error _ => 0
def calE (r : Except Int Int) : Int := match r with
  | .ok _ => 0
  | .error e => e
theorem cal_ok {op a b : Int} (h : calE (calcS op a b) = 0) : calcS op a b = .ok (calV (calcS op a b)) := by
  cases e : calcS op a b with
  | ok v => rfl
  | error x => rw [e] at h; have := calcS_err e; simp only [calE] at h; omega
theorem cal_err {op a b : Int} (h : ¬ calE (calcS op a b) = 0) : calcS op a b = .error (calE (calcS op a b)) := by
  cases e : calcS op a b with
  | ok v => rw [e] at h; exact absurd rfl h
  | error x => rfl
abbrev rT (now : List Int) : AObj := .arr 3 1 (now.map fun v => [AV.i v])
theorem outC_eq (r : Except Int Int) : outC r = .tup [.i (calV r), .i (calE r)] := by cases r <;> rfl
theorem outT_err {e : Int} {n : Nat} : Cv (.tup [.pv (.sc (.slice none 0 0)), .i n, .i e]) (outT (.error e, n)) :=
  Cv.tup ⟨Cv.nil (by decide), Cv.refl _, Cv.refl _, trivial⟩
theorem RTrace_run (vs : List Vr) (l : List Ins) (st : List Int) (i0 i1 i2 i3 : Int) (ht : Nat → Int) (hc : Cert l vs.length ht) (hs : stOk vs st = true) (hi : ∀ j, isV (inS i0 i1 i2 i3 j)) (hv : vs.length ≤ 12) (H0 : List AObj) :
    ARun Tryd.prog 24 [.rs 5 (vs.map encV), .rs 3 (l.map encI), .rs 1 (rI st), .agg [.i i0, .i i1, .i i2, .i i3]] H0 (.ret (outT (traceS vs i0 i1 i2 i3 l (l.length + 1) ⟨st, [], 0⟩ 0)) H0) := by
  have hsl := stOk_len hs
  have hl := hc.len
  have hk1 : ((st.length : Nat) : Int) ≤ 281474976710656 := by omega
  (refine ARun.intro Tryd.func24 rfl Tryd.call24 Tryd.ntmps24 Tryd.results24 ?_; simp only [List.length_cons, List.length_nil, List.length_map, Nat.reduceAdd, Nat.reduceSub, List.replicate_succ, List.replicate_zero, List.cons_append, List.nil_append])
  repeat' (first | refine awp_seq ?_ | refine awp_block ?_ | refine awp_scope ?_ | ((first | refine awp_region_k fun Kn Kp hn hp => ?_ | show AWP _ _ (Code.region 23 _ true) _ _ _; refine awp_drawn_k (id := 23) [] [] [.win [0], .win [0], .win [0], .win [0], .win [0], .win [0], .win [0], .win [0], .win [0], .win [0], .win [0], .win [0], .win [0], .win [0], .win [0], .win [0], .win [0], .win [0], .win [0], .win [0], .win [0], .win [0], .win [0], .win [0], .win [0], .win [0]] 0 rfl (by as_aux_lemma => kernel_rfl) fun Kn Kp hn hp => ?_ | show AWP _ _ (Code.region 25 _ true) _ _ _; refine awp_drawn_k (id := 25) [9] [] [.win [0], .win [0], .win [0], .win [0], .win [0], .win [0], .win [0], .win [0], .win [0], .eff 0] 1 rfl (by as_aux_lemma => kernel_rfl) fun Kn Kp hn hp => ?_ | show AWP _ _ (Code.region 28 _ true) _ _ _; refine awp_drawn_k (id := 28) [12] [] [.win [0], .win [0], .win [0], .win [0], .win [0], .win [0], .win [0], .win [0], .win [0], .win [0], .win [0], .win [0], .eff 0, .win [1]] 1 rfl (by as_aux_lemma => kernel_rfl) fun Kn Kp hn hp => ?_ | show AWP _ _ (Code.region 12 _ true) _ _ _; refine awp_drawn_k (id := 12) [12] [] [.win [0], .win [0], .win [0], .win [0], .win [0], .win [0], .win [0], .win [0], .win [0], .win [0], .win [0], .win [0], .eff 0, .win [1], .win [1], .win [1], .win [1], .win [1]] 1 rfl (by as_aux_lemma => kernel_rfl) fun Kn Kp hn hp => ?_ | refine oge_intro (by assumption) ?_) <;> (simp only [go_sem, Nat.reduceAdd, Nat.reduceSub, Nat.reduceMul, Nat.reduceLeDiff, Nat.reduceLT, Nat.reduceEqDiff, Int.reduceToNat, Int.reduceAdd, Int.reduceMul, Int.reduceSub, Int.reduceLT, Int.reduceLE, Int.reduceEq, Int.reduceNeg, Int.reduceBEq, Int.reduceBNe, ↓reduceIte, reduceCtorEq, List.length_map] <;> try simp (disch := omega) only [wrap_of])) | (refine hn _ _ ?_; clear hn hp Kn Kp) | (refine hp _ _ _ ?_; clear hn hp Kn Kp) | (simp (disch := omega) only [go_sem, Nat.reduceAdd, Nat.reduceSub, Nat.reduceMul, Nat.reduceLeDiff, Nat.reduceLT, Nat.reduceEqDiff, Int.reduceToNat, Int.reduceAdd, Int.reduceMul, Int.reduceSub, Int.reduceLT, Int.reduceLE, Int.reduceEq, Int.reduceNeg, Int.reduceBEq, Int.reduceBNe, ↓reduceIte, reduceCtorEq, List.length_map, if_pos, if_neg, decide_pos', decide_neg', beq_pos', beq_neg', bne_pos', bne_neg', getE, wrap_of]) | (refine awp_cond_t rfl (by first | with_reducible rfl | (simp only [Bool.and_eq_true, Bool.or_eq_true, Bool.and_eq_false_iff, Bool.or_eq_false_iff, decide_eq_true_eq, decide_eq_false_iff_not, beq_iff_eq, bne_iff_ne, bne_eq_false_iff_eq, beq_eq_false_iff_ne, ne_eq, Bool.not_eq_true', Bool.not_eq_false', not_true_eq_false, not_false_eq_true]; omega)) ?_) | (refine awp_cond_f rfl (by first | with_reducible rfl | (simp only [Bool.and_eq_true, Bool.or_eq_true, Bool.and_eq_false_iff, Bool.or_eq_false_iff, decide_eq_true_eq, decide_eq_false_iff_not, beq_iff_eq, bne_iff_ne, bne_eq_false_iff_eq, beq_eq_false_iff_ne, ne_eq, Bool.not_eq_true', Bool.not_eq_false', not_true_eq_false, not_false_eq_true]; omega)) ?_) | (refine awp_cond rfl (fun hb => ?_) (fun hb => ?_) <;> (try simp only [decide_eq_true_eq, decide_eq_false_iff_not, Bool.not_eq_true', Bool.not_eq_false', Bool.true_eq_false, Bool.false_eq_true, beq_iff_eq, bne_iff_ne, Bool.or_eq_true, Bool.and_eq_true, Bool.or_eq_false_iff, Bool.and_eq_false_iff, bne_eq_false_iff_eq, beq_eq_false_iff_ne, gt_iff_lt, ge_iff_le, Int.reduceEq, Int.reduceNe, Int.reduceLT, Int.reduceLE, ne_eq, not_true_eq_false, not_false_eq_true] at hb)) | ((first | refine awg_split (fun hb => ?_) (fun hb => ?_) | refine awsg_split (fun hb => ?_) (fun hb => ?_)) <;> have hb0 := hb <;> (try simp only [decide_eq_true_eq, decide_eq_false_iff_not, Bool.not_eq_true', Bool.not_eq_false', Bool.true_eq_false, Bool.false_eq_true, beq_iff_eq, bne_iff_ne, Bool.or_eq_true, Bool.and_eq_true, Bool.or_eq_false_iff, Bool.and_eq_false_iff, bne_eq_false_iff_eq, beq_eq_false_iff_ne, gt_iff_lt, ge_iff_le, Int.reduceEq, Int.reduceNe, Int.reduceLT, Int.reduceLE, ne_eq, not_true_eq_false, not_false_eq_true] at hb0) <;> (try simp only [beq_true, beq_false, Bool.not_eq_true', Bool.not_eq_false'] at hb) <;> (simp only [go_sem, Nat.reduceAdd, Nat.reduceSub, Nat.reduceMul, Nat.reduceLeDiff, Nat.reduceLT, Nat.reduceEqDiff, Int.reduceToNat, Int.reduceAdd, Int.reduceMul, Int.reduceSub, Int.reduceLT, Int.reduceLE, Int.reduceEq, Int.reduceNeg, Int.reduceBEq, Int.reduceBNe, ↓reduceIte, reduceCtorEq, List.length_map, hb, hb0] <;> try simp (disch := omega) only [wrap_of])) | (refine And.intro ?_ ?_) | refine awp_skip ?_ | refine awp_ret ?_ | refine awp_exit ?_ | refine awp_label ?_ | refine awloop_step ?_ | fail)
  refine awp_wk (Wk.ghost 12 3 (sz := 1) (by decide) rfl) ?_
  refine awp_loop_ind (σ := Cf × List Int × Nat) (fun s => l.length - s.1.at') (fun s => TInv vs i0 i1 i2 i3 l ht st s.1 s.2.2 ∧ s.1.stk.length + s.2.1.length ≤ 64)
    (fun s => (.rs 5 (vs.map encV) :: .rs 3 (l.map encI) :: .any :: .any :: .any :: .any :: .any :: .p H0.length 0 :: .any :: .any :: .any :: .os (H0.length + 1) 0 vs.length vs.length :: .os (H0.length + 2) 0 s.1.stk.length (s.1.stk.length + s.2.1.length) :: .i s.2.2 :: .i s.1.at' :: .any :: .any :: .any :: .any :: .any :: .any :: .any :: .any :: .any :: .any :: .any :: .any :: .any :: .any :: .any :: .any :: .any :: .any :: .any :: .any :: .any :: .any :: .any :: .any :: .any :: .any :: .any :: .any :: .any :: .any :: .any :: .any :: .any :: .any :: .any :: .any :: .any :: .any :: .any :: .any :: .any :: .any :: .any :: .any :: .any :: .any :: .any :: .any :: .any :: .any :: .any :: .any :: .any :: .any :: .any :: .any :: .any :: .any :: .any :: .any :: .any :: .any :: .any :: .any :: .any :: .any :: .any :: .any :: .any :: .any :: .any :: .any :: .any :: .any :: .any :: .any :: .any :: .any :: .any :: .any :: .any :: .any :: .any :: .any :: .any :: .any :: .any :: .any :: .any :: .any :: .any :: .any :: .any :: .any :: .any :: .any :: .any :: .any :: .any :: .any :: .any :: .any :: .any :: .any :: .any :: .any :: .any :: .any :: .any :: .any :: .any :: .any :: .any :: .any :: .any :: .any :: .any :: .any :: .any :: .any :: .any :: .any :: .any :: .any :: .any :: .any :: .any :: .any :: .any :: .any :: .any :: .any :: .any :: .any :: .any :: .any :: .any :: .any :: .any :: .any :: .any :: .any :: .any :: .any :: .any :: .any :: .any :: .any :: []))
    (fun s => H0 ++ [.cells 28 (inC i0 i1 i2 i3), rT s.1.now, rT (s.1.stk ++ s.2.1)]) (⟨st, [], 0⟩, [], 0) ⟨TInv.start hc hs, by simp⟩ ?_ ?_
  · refine Wk.fgtE ?_ ?_
    · simp [rT, inC, List.map_map, Function.comp_def, List.append_assoc]
    · simp only [List.set_cons_succ, List.set_cons_zero, List.length_append, List.length_cons, List.length_nil, hsl, Nat.add_zero, Nat.zero_add, Nat.reduceAdd, Fgt, Int.natCast_zero, Int.cast_ofNat_Int, Int.ofNat_eq_natCast, true_or, or_true, true_and, and_true, and_self, eq_self]
  · rintro ⟨⟨now, stk, at'⟩, junk, n⟩ ⟨t, hj⟩
    simp only at t hj ⊢
    have hnow := t.ok.now
    have hle := t.le
    have hnle := t.nle
    simp only at hnow hle hnle
    cases hx : l[at']? with
    | none =>
      have hge : l.length ≤ at' := List.getElem?_eq_none_iff.1 hx
      rw [t.stop hx]
      (refine wkO ?_; (repeat' first | exact True.intro | refine Lf.mk ?_ ?_); all_goals intro hP)
      refine ⟨_, rfl, _, rfl, Fin.pureC 2 ?_⟩
      rw [AV.low, List.map_cons, low_ints (t := 3) (by simp only [getOk, List.getElem?_cons_succ, List.getElem?_cons_zero]) (by omega) hnow.symm]
      exact Cv.tup ⟨Cv.refl _, Cv.of (by simp only [AV.low, List.map_cons, List.map_nil]), Cv.of (by simp only [AV.low, runE]), trivial⟩
    | some x =>
      have hlt := (List.getElem?_eq_some_iff.1 hx).1
      obtain ⟨op, nn, rel⟩ := x
      have hx' : (l.map encI)[at']? = some (cI ⟨op, nn, rel⟩) := by rw [List.getElem?_map, hx]; rfl
      have hA := cert_At hc hx t.ht
      have hop := insOk_op hA.ok
      have hok := hA.ok
      have htk := hA.tk
      have hpt := hA.pt
      simp only at hop hok htk hpt
      have o2 : op = 2 ∨ op = 11 → 0 ≤ nn ∧ nn < vs.length := by intro h; unfold insOk at hok; rcases h with rfl | rfl <;> simp at hok <;> omega
      have o3 : op = 3 → 0 ≤ nn ∧ nn < 4 := by intro h; unfold insOk at hok; subst h; simp at hok; omega
      have oj : op = 12 ∨ op = 13 → 0 ≤ nn := by intro h; unfold insOk at hok; rcases h with rfl | rfl <;> simp at hok <;> omega
      have k1 : op = 11 → 1 ≤ stk.length := by rintro rfl; simp [takes] at htk; omega
      have k2 : op = 12 ∨ (op ≠ 1 ∧ op ≠ 2 ∧ op ≠ 3 ∧ op ≠ 11 ∧ op ≠ 13) → 2 ≤ stk.length := by intro h; have := takes_2 h; omega
      have o12 : op = 12 → 1 ≤ rel ∧ rel ≤ 6 := by intro h; unfold insOk at hok; subst h; simp at hok; omega
      have k0 : op = 1 ∨ op = 2 ∨ op = 3 → stk.length < 64 := by intro h; rcases h with rfl | rfl | rfl <;> simp [takes, puts] at hpt <;> omega
      have hcalc : (op ≠ 1 ∧ op ≠ 2 ∧ op ≠ 3 ∧ op ≠ 11 ∧ op ≠ 12 ∧ op ≠ 13) → ∀ H0, ARun Tryd.prog 32 [.i op, .i (stk.getD (stk.length - 2) 0), .i (stk.getD (stk.length - 1) 0)] H0 (.ret (.tup [.i (calV (calcS op (stk.getD (stk.length - 2) 0) (stk.getD (stk.length - 1) 0))), .i (calE (calcS op (stk.getD (stk.length - 2) 0) (stk.getD (stk.length - 1) 0)))]) H0) := by
        intro h H0
        have h2 := k2 (.inr (by omega))
        rw [← outC_eq]
        exact Rcalc_run _ _ _ (by omega) (t.ok.stkV _ (getD_mem (l := stk) (by omega))) (t.ok.stkV _ (getD_mem (l := stk) (by omega))) H0
      have htn1 : ((stk.length : Int) - 1).toNat = stk.length - 1 := by omega
      have htn2 : ((stk.length : Int) - 2).toNat = stk.length - 2 := by omega
      have hw1 : IntKind.i64.wrap ((at' : Int) + 1) = ((at' + 1 : Nat) : Int) := by rw [wrap_of (by omega) (by omega)]; omega
      have hw2 : IntKind.i64.wrap ((n : Int) + 1) = ((n + 1 : Nat) : Int) := by rw [wrap_of (by omega) (by omega)]; omega
      repeat' (first | refine awp_seq ?_ | refine awp_block ?_ | refine awp_scope ?_ | ((first | refine awp_region_k fun Kn Kp hn hp => ?_ | show AWP _ _ (Code.region 23 _ true) _ _ _; refine awp_drawn_k (id := 23) [] [] [.win [0], .win [0], .win [0], .win [0], .win [0], .win [0], .win [0], .win [0], .win [0], .win [0], .win [0], .win [0], .win [0], .win [0], .win [0], .win [0], .win [0], .win [0], .win [0], .win [0], .win [0], .win [0], .win [0], .win [0], .win [0], .win [0]] 0 rfl (by as_aux_lemma => kernel_rfl) fun Kn Kp hn hp => ?_ | show AWP _ _ (Code.region 25 _ true) _ _ _; refine awp_drawn_k (id := 25) [9] [] [.win [0], .win [0], .win [0], .win [0], .win [0], .win [0], .win [0], .win [0], .win [0], .eff 0] 1 rfl (by as_aux_lemma => kernel_rfl) fun Kn Kp hn hp => ?_ | show AWP _ _ (Code.region 28 _ true) _ _ _; refine awp_drawn_k (id := 28) [12] [] [.win [0], .win [0], .win [0], .win [0], .win [0], .win [0], .win [0], .win [0], .win [0], .win [0], .win [0], .win [0], .eff 0, .win [1]] 1 rfl (by as_aux_lemma => kernel_rfl) fun Kn Kp hn hp => ?_ | show AWP _ _ (Code.region 12 _ true) _ _ _; refine awp_drawn_k (id := 12) [12] [] [.win [0], .win [0], .win [0], .win [0], .win [0], .win [0], .win [0], .win [0], .win [0], .win [0], .win [0], .win [0], .eff 0, .win [1], .win [1], .win [1], .win [1], .win [1]] 1 rfl (by as_aux_lemma => kernel_rfl) fun Kn Kp hn hp => ?_ | refine oge_intro (by assumption) ?_ | (show AWE _ _ _ _ _ _ _ _ _; first | refine awe_intro (hcalc (by omega) _) ?_ | refine awe_intro (RHolds_run _ _ _ (by omega) _) ?_) | (show AWSF _ _ _ _ _ _ _ _ _ _ _; first | refine awsf_intro (hcalc (by omega) _) (fun hrun => ?_) | refine awsf_intro (RHolds_run _ _ _ (by omega) _) (fun hrun => ?_)) | (show OGE _ _ _ _ _ _ _; first | refine oge_intro (hcalc (by omega) _) ?_ | refine oge_intro (RHolds_run _ _ _ (by omega) _) ?_) | (show AWSE _ _ _ _ _ _ _ _ _ _ _; first | refine awse_intro (hcalc (by omega) _) (fun hrun => ?_) | refine awse_intro (RHolds_run _ _ _ (by omega) _) (fun hrun => ?_)) | (show PGE _ _ _ _ _; first | refine pge_intro (hcalc (by omega) _) (fun tm' => ?_) | refine pge_intro (RHolds_run _ _ _ (by omega) _) (fun tm' => ?_))) <;> (simp only [go_sem, Nat.reduceAdd, Nat.reduceSub, Nat.reduceMul, Nat.reduceLeDiff, Nat.reduceLT, Nat.reduceEqDiff, Int.reduceToNat, Int.reduceAdd, Int.reduceMul, Int.reduceSub, Int.reduceLT, Int.reduceLE, Int.reduceEq, Int.reduceNeg, Int.reduceBEq, Int.reduceBNe, ↓reduceIte, reduceCtorEq, getEI, getEV, encV_eq, inC_len, List.length_map, List.length_append, t.ok.now, hx', Option.map_some, row_set, Int.toNat_natCast, hnow, hw1, hw2, getEApp, inC_get, getD_app, htn1, htn2, Nat.mul_one, Nat.sub_zero] <;> try simp (disch := omega) only [wrap_of])) | (refine hn _ _ ?_; clear hn hp Kn Kp) | (refine hp _ _ _ ?_; clear hn hp Kn Kp) | (simp (disch := omega) only [go_sem, Nat.reduceAdd, Nat.reduceSub, Nat.reduceMul, Nat.reduceLeDiff, Nat.reduceLT, Nat.reduceEqDiff, Int.reduceToNat, Int.reduceAdd, Int.reduceMul, Int.reduceSub, Int.reduceLT, Int.reduceLE, Int.reduceEq, Int.reduceNeg, Int.reduceBEq, Int.reduceBNe, ↓reduceIte, reduceCtorEq, getEI, getEV, encV_eq, inC_len, List.length_map, List.length_append, t.ok.now, hx', Option.map_some, row_set, Int.toNat_natCast, hnow, hw1, hw2, getEApp, inC_get, getD_app, htn1, htn2, Nat.mul_one, Nat.sub_zero, if_pos, if_neg, decide_pos', decide_neg', beq_pos', beq_neg', bne_pos', bne_neg', wrap_of]) | (refine awp_cond_t rfl (by first | with_reducible rfl | (simp only [Bool.and_eq_true, Bool.or_eq_true, Bool.and_eq_false_iff, Bool.or_eq_false_iff, decide_eq_true_eq, decide_eq_false_iff_not, beq_iff_eq, bne_iff_ne, bne_eq_false_iff_eq, beq_eq_false_iff_ne, ne_eq, Bool.not_eq_true', Bool.not_eq_false', not_true_eq_false, not_false_eq_true]; omega)) ?_) | (refine awp_cond_f rfl (by first | with_reducible rfl | (simp only [Bool.and_eq_true, Bool.or_eq_true, Bool.and_eq_false_iff, Bool.or_eq_false_iff, decide_eq_true_eq, decide_eq_false_iff_not, beq_iff_eq, bne_iff_ne, bne_eq_false_iff_eq, beq_eq_false_iff_ne, ne_eq, Bool.not_eq_true', Bool.not_eq_false', not_true_eq_false, not_false_eq_true]; omega)) ?_) | (refine awp_cond rfl (fun hb => ?_) (fun hb => ?_) <;> (try simp only [decide_eq_true_eq, decide_eq_false_iff_not, Bool.not_eq_true', Bool.not_eq_false', Bool.true_eq_false, Bool.false_eq_true, beq_iff_eq, bne_iff_ne, Bool.or_eq_true, Bool.and_eq_true, Bool.or_eq_false_iff, Bool.and_eq_false_iff, bne_eq_false_iff_eq, beq_eq_false_iff_ne, gt_iff_lt, ge_iff_le, Int.reduceEq, Int.reduceNe, Int.reduceLT, Int.reduceLE, ne_eq, not_true_eq_false, not_false_eq_true] at hb)) | ((first | refine awg_split (fun hb => ?_) (fun hb => ?_) | refine awsg_split (fun hb => ?_) (fun hb => ?_)) <;> have hb0 := hb <;> (try simp only [decide_eq_true_eq, decide_eq_false_iff_not, Bool.not_eq_true', Bool.not_eq_false', Bool.true_eq_false, Bool.false_eq_true, beq_iff_eq, bne_iff_ne, Bool.or_eq_true, Bool.and_eq_true, Bool.or_eq_false_iff, Bool.and_eq_false_iff, bne_eq_false_iff_eq, beq_eq_false_iff_ne, gt_iff_lt, ge_iff_le, Int.reduceEq, Int.reduceNe, Int.reduceLT, Int.reduceLE, ne_eq, not_true_eq_false, not_false_eq_true] at hb0) <;> (try simp only [beq_true, beq_false, Bool.not_eq_true', Bool.not_eq_false'] at hb) <;> (simp only [go_sem, Nat.reduceAdd, Nat.reduceSub, Nat.reduceMul, Nat.reduceLeDiff, Nat.reduceLT, Nat.reduceEqDiff, Int.reduceToNat, Int.reduceAdd, Int.reduceMul, Int.reduceSub, Int.reduceLT, Int.reduceLE, Int.reduceEq, Int.reduceNeg, Int.reduceBEq, Int.reduceBNe, ↓reduceIte, reduceCtorEq, getEI, getEV, encV_eq, inC_len, List.length_map, List.length_append, t.ok.now, hx', Option.map_some, row_set, Int.toNat_natCast, hnow, hw1, hw2, getEApp, inC_get, getD_app, htn1, htn2, Nat.mul_one, Nat.sub_zero, hb, hb0] <;> try simp (disch := omega) only [wrap_of])) | (refine And.intro ?_ ?_) | refine awp_skip ?_ | refine awp_ret ?_ | refine awp_exit ?_ | refine awp_label ?_ | refine awloop_step ?_ | (show AWR _ _ _ _ _ _ _ _; (rcases junk with _ | ⟨jr0, jr⟩ <;> simp only [List.length_nil, List.length_cons, Nat.add_zero, List.append_nil])) | fail)
      all_goals clear hcalc hpt htk hok hA
      · have hs : stepS vs i0 i1 i2 i3 ⟨op, nn, rel⟩ ⟨now, stk, at'⟩ = .ok ⟨now, stk ++ [nn], at' + 1⟩ := by simp only [stepS]; simp (disch := omega) only [getEV, if_pos, if_neg]
        obtain ⟨t', hm⟩ := TInv.next hc hi t hx hs
        refine ⟨(⟨now, stk ++ [nn], at' + 1⟩, ([] : List Int), n + 1), hm, ⟨t', ?_⟩, ?_⟩
        · (try simp only [List.length_append, List.length_cons, List.length_nil, List.length_take, List.length_drop, List.length_set] at hj ⊢); omega
        · refine Wk.keepE 3 1 ?_ (by simp) (by intro o ho; simp only [List.mem_cons, List.not_mem_nil, or_false] at ho; rcases ho with rfl | rfl | rfl <;> (first | exact row_under | exact inC_under)) ?_
          · simp only [List.take_succ_cons, List.take_zero, rT]; (try rw [row_put (by omega)]); (try rw [cut_row (a := stk) (b := junk) (k := stk.length - 1) (by omega)]); (try rw [cut_row (a := stk) (b := junk) (k := stk.length - 2) (by omega)]); (try simp [List.take_append_drop])
          · (try have he1 : stk.length - 1 + (stk.length + junk.length - (stk.length - 1)) = stk.length + junk.length := by omega)
            (try have he2 : stk.length - 2 + (stk.length + junk.length - (stk.length - 2)) = stk.length + junk.length := by omega)
            (try have he3 : stk.length - 2 + 1 + (stk.length + junk.length - (stk.length - 2 + 1)) = stk.length + junk.length := by omega)
            (try have he4 : max nn 0 = nn := by omega)
            (try simp [AV.low, Fgt, *])
            try omega
      · have hs : stepS vs i0 i1 i2 i3 ⟨op, nn, rel⟩ ⟨now, stk, at'⟩ = .ok ⟨now, stk ++ [nn], at' + 1⟩ := by simp only [stepS]; simp (disch := omega) only [getEV, if_pos, if_neg]
        obtain ⟨t', hm⟩ := TInv.next hc hi t hx hs
        refine ⟨(⟨now, stk ++ [nn], at' + 1⟩, jr, n + 1), hm, ⟨t', ?_⟩, ?_⟩
        · (try simp only [List.length_append, List.length_cons, List.length_nil, List.length_take, List.length_drop, List.length_set] at hj ⊢); omega
        · refine Wk.keepE 3 1 ?_ (by simp) (by intro o ho; simp only [List.mem_cons, List.not_mem_nil, or_false] at ho; rcases ho with rfl | rfl | rfl <;> (first | exact row_under | exact inC_under)) ?_
          · simp only [List.take_succ_cons, List.take_zero, rT]; (try rw [row_put (by omega)]); (try rw [cut_row (a := stk) (b := junk) (k := stk.length - 1) (by omega)]); (try rw [cut_row (a := stk) (b := junk) (k := stk.length - 2) (by omega)]); (try simp [List.take_append_drop])
          · (try have he1 : stk.length - 1 + (stk.length + junk.length - (stk.length - 1)) = stk.length + junk.length := by omega)
            (try have he2 : stk.length - 2 + (stk.length + junk.length - (stk.length - 2)) = stk.length + junk.length := by omega)
            (try have he3 : stk.length - 2 + 1 + (stk.length + junk.length - (stk.length - 2 + 1)) = stk.length + junk.length := by omega)
            (try have he4 : max nn 0 = nn := by omega)
            (try simp [AV.low, Fgt, *])
            try omega
      · have hs : stepS vs i0 i1 i2 i3 ⟨op, nn, rel⟩ ⟨now, stk, at'⟩ = .ok ⟨now, stk ++ [now.getD nn.toNat 0], at' + 1⟩ := by simp only [stepS]; simp (disch := omega) only [getEV, if_pos, if_neg]
        obtain ⟨t', hm⟩ := TInv.next hc hi t hx hs
        refine ⟨(⟨now, stk ++ [now.getD nn.toNat 0], at' + 1⟩, ([] : List Int), n + 1), hm, ⟨t', ?_⟩, ?_⟩
        · (try simp only [List.length_append, List.length_cons, List.length_nil, List.length_take, List.length_drop, List.length_set] at hj ⊢); omega
        · refine Wk.keepE 3 1 ?_ (by simp) (by intro o ho; simp only [List.mem_cons, List.not_mem_nil, or_false] at ho; rcases ho with rfl | rfl | rfl <;> (first | exact row_under | exact inC_under)) ?_
          · simp only [List.take_succ_cons, List.take_zero, rT]; (try rw [row_put (by omega)]); (try rw [cut_row (a := stk) (b := junk) (k := stk.length - 1) (by omega)]); (try rw [cut_row (a := stk) (b := junk) (k := stk.length - 2) (by omega)]); (try simp [List.take_append_drop])
          · (try have he1 : stk.length - 1 + (stk.length + junk.length - (stk.length - 1)) = stk.length + junk.length := by omega)
            (try have he2 : stk.length - 2 + (stk.length + junk.length - (stk.length - 2)) = stk.length + junk.length := by omega)
            (try have he3 : stk.length - 2 + 1 + (stk.length + junk.length - (stk.length - 2 + 1)) = stk.length + junk.length := by omega)
            (try have he4 : max nn 0 = nn := by omega)
            (try simp [AV.low, Fgt, *])
            try omega
      · have hs : stepS vs i0 i1 i2 i3 ⟨op, nn, rel⟩ ⟨now, stk, at'⟩ = .ok ⟨now, stk ++ [now.getD nn.toNat 0], at' + 1⟩ := by simp only [stepS]; simp (disch := omega) only [getEV, if_pos, if_neg]
        obtain ⟨t', hm⟩ := TInv.next hc hi t hx hs
        refine ⟨(⟨now, stk ++ [now.getD nn.toNat 0], at' + 1⟩, jr, n + 1), hm, ⟨t', ?_⟩, ?_⟩
        · (try simp only [List.length_append, List.length_cons, List.length_nil, List.length_take, List.length_drop, List.length_set] at hj ⊢); omega
        · refine Wk.keepE 3 1 ?_ (by simp) (by intro o ho; simp only [List.mem_cons, List.not_mem_nil, or_false] at ho; rcases ho with rfl | rfl | rfl <;> (first | exact row_under | exact inC_under)) ?_
          · simp only [List.take_succ_cons, List.take_zero, rT]; (try rw [row_put (by omega)]); (try rw [cut_row (a := stk) (b := junk) (k := stk.length - 1) (by omega)]); (try rw [cut_row (a := stk) (b := junk) (k := stk.length - 2) (by omega)]); (try simp [List.take_append_drop])
          · (try have he1 : stk.length - 1 + (stk.length + junk.length - (stk.length - 1)) = stk.length + junk.length := by omega)
            (try have he2 : stk.length - 2 + (stk.length + junk.length - (stk.length - 2)) = stk.length + junk.length := by omega)
            (try have he3 : stk.length - 2 + 1 + (stk.length + junk.length - (stk.length - 2 + 1)) = stk.length + junk.length := by omega)
            (try have he4 : max nn 0 = nn := by omega)
            (try simp [AV.low, Fgt, *])
            try omega
      · have hs : stepS vs i0 i1 i2 i3 ⟨op, nn, rel⟩ ⟨now, stk, at'⟩ = .ok ⟨now, stk ++ [inS i0 i1 i2 i3 nn.toNat], at' + 1⟩ := by simp only [stepS]; simp (disch := omega) only [getEV, if_pos, if_neg]
        obtain ⟨t', hm⟩ := TInv.next hc hi t hx hs
        refine ⟨(⟨now, stk ++ [inS i0 i1 i2 i3 nn.toNat], at' + 1⟩, ([] : List Int), n + 1), hm, ⟨t', ?_⟩, ?_⟩
        · (try simp only [List.length_append, List.length_cons, List.length_nil, List.length_take, List.length_drop, List.length_set] at hj ⊢); omega
        · refine Wk.keepE 3 1 ?_ (by simp) (by intro o ho; simp only [List.mem_cons, List.not_mem_nil, or_false] at ho; rcases ho with rfl | rfl | rfl <;> (first | exact row_under | exact inC_under)) ?_
          · simp only [List.take_succ_cons, List.take_zero, rT]; (try rw [row_put (by omega)]); (try rw [cut_row (a := stk) (b := junk) (k := stk.length - 1) (by omega)]); (try rw [cut_row (a := stk) (b := junk) (k := stk.length - 2) (by omega)]); (try simp [List.take_append_drop])
          · (try have he1 : stk.length - 1 + (stk.length + junk.length - (stk.length - 1)) = stk.length + junk.length := by omega)
            (try have he2 : stk.length - 2 + (stk.length + junk.length - (stk.length - 2)) = stk.length + junk.length := by omega)
            (try have he3 : stk.length - 2 + 1 + (stk.length + junk.length - (stk.length - 2 + 1)) = stk.length + junk.length := by omega)
            (try have he4 : max nn 0 = nn := by omega)
            (try simp [AV.low, Fgt, *])
            try omega
      · have hs : stepS vs i0 i1 i2 i3 ⟨op, nn, rel⟩ ⟨now, stk, at'⟩ = .ok ⟨now, stk ++ [inS i0 i1 i2 i3 nn.toNat], at' + 1⟩ := by simp only [stepS]; simp (disch := omega) only [getEV, if_pos, if_neg]
        obtain ⟨t', hm⟩ := TInv.next hc hi t hx hs
        refine ⟨(⟨now, stk ++ [inS i0 i1 i2 i3 nn.toNat], at' + 1⟩, jr, n + 1), hm, ⟨t', ?_⟩, ?_⟩
        · (try simp only [List.length_append, List.length_cons, List.length_nil, List.length_take, List.length_drop, List.length_set] at hj ⊢); omega
        · refine Wk.keepE 3 1 ?_ (by simp) (by intro o ho; simp only [List.mem_cons, List.not_mem_nil, or_false] at ho; rcases ho with rfl | rfl | rfl <;> (first | exact row_under | exact inC_under)) ?_
          · simp only [List.take_succ_cons, List.take_zero, rT]; (try rw [row_put (by omega)]); (try rw [cut_row (a := stk) (b := junk) (k := stk.length - 1) (by omega)]); (try rw [cut_row (a := stk) (b := junk) (k := stk.length - 2) (by omega)]); (try simp [List.take_append_drop])
          · (try have he1 : stk.length - 1 + (stk.length + junk.length - (stk.length - 1)) = stk.length + junk.length := by omega)
            (try have he2 : stk.length - 2 + (stk.length + junk.length - (stk.length - 2)) = stk.length + junk.length := by omega)
            (try have he3 : stk.length - 2 + 1 + (stk.length + junk.length - (stk.length - 2 + 1)) = stk.length + junk.length := by omega)
            (try have he4 : max nn 0 = nn := by omega)
            (try simp [AV.low, Fgt, *])
            try omega
      · have hs : stepS vs i0 i1 i2 i3 ⟨op, nn, rel⟩ ⟨now, stk, at'⟩ = .error 15 := by simp only [stepS]; simp (disch := omega) only [getEV, if_pos, if_neg]
        rw [t.err hx hs]
        refine ⟨_, rfl, _, rfl, Fin.pureC 2 ?_⟩
        simp only [AV.low, List.map_cons, List.map_nil]
        exact outT_err
      · have hs : stepS vs i0 i1 i2 i3 ⟨op, nn, rel⟩ ⟨now, stk, at'⟩ = .ok ⟨now.set nn.toNat (stk.getD (stk.length - 1) 0), stk.take (stk.length - 1), at' + 1⟩ := by simp only [stepS]; simp (disch := omega) only [getEV, if_pos, if_neg]
        obtain ⟨t', hm⟩ := TInv.next hc hi t hx hs
        refine ⟨(⟨now.set nn.toNat (stk.getD (stk.length - 1) 0), stk.take (stk.length - 1), at' + 1⟩, (stk ++ junk).drop (stk.length - 1), n + 1), hm, ⟨t', ?_⟩, ?_⟩
        · (try simp only [List.length_append, List.length_cons, List.length_nil, List.length_take, List.length_drop, List.length_set] at hj ⊢); omega
        · refine Wk.keepE 3 1 ?_ (by simp) (by intro o ho; simp only [List.mem_cons, List.not_mem_nil, or_false] at ho; rcases ho with rfl | rfl | rfl <;> (first | exact row_under | exact inC_under)) ?_
          · simp only [List.take_succ_cons, List.take_zero, rT]; (try rw [row_put (by omega)]); (try rw [cut_row (a := stk) (b := junk) (k := stk.length - 1) (by omega)]); (try rw [cut_row (a := stk) (b := junk) (k := stk.length - 2) (by omega)]); (try simp [List.take_append_drop])
          · (try have he1 : stk.length - 1 + (stk.length + junk.length - (stk.length - 1)) = stk.length + junk.length := by omega)
            (try have he2 : stk.length - 2 + (stk.length + junk.length - (stk.length - 2)) = stk.length + junk.length := by omega)
            (try have he3 : stk.length - 2 + 1 + (stk.length + junk.length - (stk.length - 2 + 1)) = stk.length + junk.length := by omega)
            (try have he4 : max nn 0 = nn := by omega)
            (try simp [AV.low, Fgt, *])
            try omega
      · have hs : stepS vs i0 i1 i2 i3 ⟨op, nn, rel⟩ ⟨now, stk, at'⟩ = .error 15 := by simp only [stepS]; simp (disch := omega) only [getEV, if_pos, if_neg]
        rw [t.err hx hs]
        refine ⟨_, rfl, _, rfl, Fin.pureC 2 ?_⟩
        simp only [AV.low, List.map_cons, List.map_nil]
        exact outT_err
      · have hs : stepS vs i0 i1 i2 i3 ⟨op, nn, rel⟩ ⟨now, stk, at'⟩ = .ok ⟨now, stk.take (stk.length - 2), nn.toNat⟩ := by simp only [stepS]; simp (disch := omega) only [if_pos, if_neg, hb, Bool.false_eq_true, if_false, if_true]
        obtain ⟨t', hm⟩ := TInv.next hc hi t hx hs
        refine ⟨(⟨now, stk.take (stk.length - 2), nn.toNat⟩, (stk ++ junk).drop (stk.length - 2), n + 1), hm, ⟨t', ?_⟩, ?_⟩
        · (try simp only [List.length_append, List.length_cons, List.length_nil, List.length_take, List.length_drop, List.length_set] at hj ⊢); omega
        · refine Wk.keepE 3 1 ?_ (by simp) (by intro o ho; simp only [List.mem_cons, List.not_mem_nil, or_false] at ho; rcases ho with rfl | rfl | rfl <;> (first | exact row_under | exact inC_under)) ?_
          · simp only [List.take_succ_cons, List.take_zero, rT]; (try rw [row_put (by omega)]); (try rw [cut_row (a := stk) (b := junk) (k := stk.length - 1) (by omega)]); (try rw [cut_row (a := stk) (b := junk) (k := stk.length - 2) (by omega)]); (try simp [List.take_append_drop])
          · (try have he1 : stk.length - 1 + (stk.length + junk.length - (stk.length - 1)) = stk.length + junk.length := by omega)
            (try have he2 : stk.length - 2 + (stk.length + junk.length - (stk.length - 2)) = stk.length + junk.length := by omega)
            (try have he3 : stk.length - 2 + 1 + (stk.length + junk.length - (stk.length - 2 + 1)) = stk.length + junk.length := by omega)
            (try have he4 : max nn 0 = nn := by omega)
            (try simp [AV.low, Fgt, *])
            try omega
      · have hs : stepS vs i0 i1 i2 i3 ⟨op, nn, rel⟩ ⟨now, stk, at'⟩ = .ok ⟨now, stk.take (stk.length - 2), at' + 1⟩ := by simp only [stepS]; simp (disch := omega) only [if_pos, if_neg, hb, Bool.false_eq_true, if_false, if_true]
        obtain ⟨t', hm⟩ := TInv.next hc hi t hx hs
        refine ⟨(⟨now, stk.take (stk.length - 2), at' + 1⟩, (stk ++ junk).drop (stk.length - 2), n + 1), hm, ⟨t', ?_⟩, ?_⟩
        · (try simp only [List.length_append, List.length_cons, List.length_nil, List.length_take, List.length_drop, List.length_set] at hj ⊢); omega
        · refine Wk.keepE 3 1 ?_ (by simp) (by intro o ho; simp only [List.mem_cons, List.not_mem_nil, or_false] at ho; rcases ho with rfl | rfl | rfl <;> (first | exact row_under | exact inC_under)) ?_
          · simp only [List.take_succ_cons, List.take_zero, rT]; (try rw [row_put (by omega)]); (try rw [cut_row (a := stk) (b := junk) (k := stk.length - 1) (by omega)]); (try rw [cut_row (a := stk) (b := junk) (k := stk.length - 2) (by omega)]); (try simp [List.take_append_drop])
          · (try have he1 : stk.length - 1 + (stk.length + junk.length - (stk.length - 1)) = stk.length + junk.length := by omega)
            (try have he2 : stk.length - 2 + (stk.length + junk.length - (stk.length - 2)) = stk.length + junk.length := by omega)
            (try have he3 : stk.length - 2 + 1 + (stk.length + junk.length - (stk.length - 2 + 1)) = stk.length + junk.length := by omega)
            (try have he4 : max nn 0 = nn := by omega)
            (try simp [AV.low, Fgt, *])
            try omega
      · have hs : stepS vs i0 i1 i2 i3 ⟨op, nn, rel⟩ ⟨now, stk, at'⟩ = .ok ⟨now, stk, nn.toNat⟩ := by simp only [stepS]; simp (disch := omega) only [getEV, if_pos, if_neg]
        obtain ⟨t', hm⟩ := TInv.next hc hi t hx hs
        refine ⟨(⟨now, stk, nn.toNat⟩, junk, n + 1), hm, ⟨t', ?_⟩, ?_⟩
        · (try simp only [List.length_append, List.length_cons, List.length_nil, List.length_take, List.length_drop, List.length_set] at hj ⊢); omega
        · refine Wk.keepE 3 1 ?_ (by simp) (by intro o ho; simp only [List.mem_cons, List.not_mem_nil, or_false] at ho; rcases ho with rfl | rfl | rfl <;> (first | exact row_under | exact inC_under)) ?_
          · simp only [List.take_succ_cons, List.take_zero, rT]; (try rw [row_put (by omega)]); (try rw [cut_row (a := stk) (b := junk) (k := stk.length - 1) (by omega)]); (try rw [cut_row (a := stk) (b := junk) (k := stk.length - 2) (by omega)]); (try simp [List.take_append_drop])
          · (try have he1 : stk.length - 1 + (stk.length + junk.length - (stk.length - 1)) = stk.length + junk.length := by omega)
            (try have he2 : stk.length - 2 + (stk.length + junk.length - (stk.length - 2)) = stk.length + junk.length := by omega)
            (try have he3 : stk.length - 2 + 1 + (stk.length + junk.length - (stk.length - 2 + 1)) = stk.length + junk.length := by omega)
            (try have he4 : max nn 0 = nn := by omega)
            (try simp [AV.low, Fgt, *])
            try omega
      · have hs : stepS vs i0 i1 i2 i3 ⟨op, nn, rel⟩ ⟨now, stk, at'⟩ = .error (calE (calcS op (stk.getD (stk.length - 2) 0) (stk.getD (stk.length - 1) 0))) := by simp only [stepS]; simp (disch := omega) only [if_neg]; rw [cal_err hb]; rfl
        rw [t.err hx hs]
        refine ⟨_, rfl, _, rfl, Fin.pureC 2 ?_⟩
        simp only [AV.low, List.map_cons, List.map_nil]
        exact outT_err
      · have hs : stepS vs i0 i1 i2 i3 ⟨op, nn, rel⟩ ⟨now, stk, at'⟩ = .ok ⟨now, stk.take (stk.length - 2) ++ [calV (calcS op (stk.getD (stk.length - 2) 0) (stk.getD (stk.length - 1) 0))], at' + 1⟩ := by simp only [stepS]; simp (disch := omega) only [if_neg]; rw [cal_ok hb]; rfl
        obtain ⟨t', hm⟩ := TInv.next hc hi t hx hs
        refine ⟨(⟨now, stk.take (stk.length - 2) ++ [calV (calcS op (stk.getD (stk.length - 2) 0) (stk.getD (stk.length - 1) 0))], at' + 1⟩, (stk ++ junk).drop (stk.length - 2 + 1), n + 1), hm, ⟨t', ?_⟩, ?_⟩
        · (try simp only [List.length_append, List.length_cons, List.length_nil, List.length_take, List.length_drop, List.length_set] at hj ⊢); omega
        · refine Wk.keepE 3 1 ?_ (by simp) (by intro o ho; simp only [List.mem_cons, List.not_mem_nil, or_false] at ho; rcases ho with rfl | rfl | rfl <;> (first | exact row_under | exact inC_under)) ?_
          · simp only [List.take_succ_cons, List.take_zero, rT]; (try rw [row_put (by omega)]); (try rw [cut_row (a := stk) (b := junk) (k := stk.length - 1) (by omega)]); (try rw [cut_row (a := stk) (b := junk) (k := stk.length - 2) (by omega)]); (try simp [List.take_append_drop])
          · (try have he1 : stk.length - 1 + (stk.length + junk.length - (stk.length - 1)) = stk.length + junk.length := by omega)
            (try have he2 : stk.length - 2 + (stk.length + junk.length - (stk.length - 2)) = stk.length + junk.length := by omega)
            (try have he3 : stk.length - 2 + 1 + (stk.length + junk.length - (stk.length - 2 + 1)) = stk.length + junk.length := by omega)
            (try have he4 : max nn 0 = nn := by omega)
            (try simp [AV.low, Fgt, *])
            try omega
end Go.Proofs.YtimmncjdknlegaaDoor.Y

set_option maxHeartbeats 8000000
set_option maxRecDepth 100000
set_option linter.unusedVariables false
set_option linter.unusedSimpArgs false
set_option linter.unusedSectionVars false
namespace Go.Proofs.YtimmncjdknlegaaDoor.Y
open Go.Proofs.YtimmncjdknlegaaDoor.AL Go.Proofs Go
attribute [local irreducible] AWP AWL AWG AWR AWE AWX AWO AWSeq AWSG AWSR AWSO AWSE AWSF GoodP OGW OGR OGE OGX PGW PGR PGE Wk AWLoop AWPD AWLD

section
variable (vs : List Vr) (c : Cod) (st : List Int) (x : Cal) (h1 : vs.length ≤ 2000000) (h2 : st.length ≤ 2000000) (hf : CodFine c) (H0 : List AObj)
include h1 h2 hf
theorem RTr_run (hfit : fitsS vs c st x = true) (H0 : List AObj) : ARun Tryd.prog 24 [.rs 5 (vs.map encV), .rs 3 ((hand c x.ev).map encI), .rs 1 (rI st), .agg [.i x.i0, .i x.i1, .i x.i2, .i x.i3]] H0
    (.ret (.tup [.rs 1 (rI (runL (runS vs c st x).1)), .i (runS vs c st x).2, .i (runE (runS vs c st x).1)]) H0) := by
  obtain ⟨a, b, d⟩ := fits_all hfit
  obtain ⟨e1, e2⟩ := call_ev d
  obtain ⟨ht, hc⟩ := verH_cert (hand_ver a e1 e2)
  have hv := verC_vars a
  exact RTrace_run vs (hand c x.ev) st x.i0 x.i1 x.i2 x.i3 ht hc b (call_in d) (by omega) H0
theorem RRun_run : ARun Tryd.prog 10 [.rs 5 (vs.map encV), agC c, .rs 1 (rI st), agL x] H0
    (.ret (.tup [.rs 1 (rI (runL (refRunS vs c st x))), .i (runE (refRunS vs c st x))]) H0) := by
  have g1 := fun H0 => RFits_run vs c st x h1 h2 hf H0
  cases hfit : fitsS vs c st x with
  | true =>
    have g2 := fun H0 => RTr_run vs c st x h1 h2 hf hfit H0
    have hev := call_ev (fits_all hfit).2.2
    have hg := hand_get (c := c) hev
    obtain ⟨e1, e2⟩ := hev
    simp only [hfit] at g1
    (refine ARun.intro Tryd.func10 rfl Tryd.call10 Tryd.ntmps10 Tryd.results10 ?_; simp only [List.length_cons, List.length_nil, List.length_map, Nat.reduceAdd, Nat.reduceSub, List.replicate_succ, List.replicate_zero, List.cons_append, List.nil_append])
    repeat' (first | refine awp_seq ?_ | refine awp_block ?_ | refine awp_scope ?_ | ((first | refine awp_region_k fun Kn Kp hn hp => ?_ | show AWP _ _ (Code.region 4 _ true) _ _ _; refine awp_drawn_k (id := 4) [9] [] [.win [0], .win [0], .win [0], .win [0], .win [0], .win [0], .win [0], .win [0], .win [0], .eff 0, .win [1], .win [1], .win [1], .win [1], .win [1], .win [1], .win [1]] 1 rfl (by as_aux_lemma => kernel_rfl) fun Kn Kp hn hp => ?_ | refine oge_intro (by assumption) ?_ | (show AWE _ _ _ _ _ _ _ _ _; first | refine awe_intro (g1 _) ?_ | refine awe_intro (g2 _) ?_) | (show AWSF _ _ _ _ _ _ _ _ _ _ _; first | refine awsf_intro (g1 _) (fun hrun => ?_) | refine awsf_intro (g2 _) (fun hrun => ?_)) | (show OGE _ _ _ _ _ _ _; first | refine oge_intro (g1 _) ?_ | refine oge_intro (g2 _) ?_) | (show AWSE _ _ _ _ _ _ _ _ _ _ _; first | refine awse_intro (g1 _) (fun hrun => ?_) | refine awse_intro (g2 _) (fun hrun => ?_)) | (show PGE _ _ _ _ _; first | refine pge_intro (g1 _) (fun tm' => ?_) | refine pge_intro (g2 _) (fun tm' => ?_))) <;> (simp only [go_sem, Nat.reduceAdd, Nat.reduceSub, Nat.reduceMul, Nat.reduceLeDiff, Nat.reduceLT, Nat.reduceEqDiff, Int.reduceToNat, Int.reduceAdd, Int.reduceMul, Int.reduceSub, Int.reduceLT, Int.reduceLE, Int.reduceEq, Int.reduceNeg, Int.reduceBEq, Int.reduceBNe, ↓reduceIte, reduceCtorEq, List.length_map, Nat.mul_one, hg, e1, e2] <;> try simp (disch := omega) only [wrap_of])) | (refine hn _ _ ?_; clear hn hp Kn Kp) | (refine hp _ _ _ ?_; clear hn hp Kn Kp) | (simp (disch := omega) only [go_sem, Nat.reduceAdd, Nat.reduceSub, Nat.reduceMul, Nat.reduceLeDiff, Nat.reduceLT, Nat.reduceEqDiff, Int.reduceToNat, Int.reduceAdd, Int.reduceMul, Int.reduceSub, Int.reduceLT, Int.reduceLE, Int.reduceEq, Int.reduceNeg, Int.reduceBEq, Int.reduceBNe, ↓reduceIte, reduceCtorEq, List.length_map, Nat.mul_one, hg, e1, e2, if_pos, if_neg, decide_pos', decide_neg', beq_pos', beq_neg', bne_pos', bne_neg', getE, wrap_of]) | (refine awp_cond_t rfl (by first | with_reducible rfl | (simp only [Bool.and_eq_true, Bool.or_eq_true, Bool.and_eq_false_iff, Bool.or_eq_false_iff, decide_eq_true_eq, decide_eq_false_iff_not, beq_iff_eq, bne_iff_ne, bne_eq_false_iff_eq, beq_eq_false_iff_ne, ne_eq, Bool.not_eq_true', Bool.not_eq_false', not_true_eq_false, not_false_eq_true]; omega)) ?_) | (refine awp_cond_f rfl (by first | with_reducible rfl | (simp only [Bool.and_eq_true, Bool.or_eq_true, Bool.and_eq_false_iff, Bool.or_eq_false_iff, decide_eq_true_eq, decide_eq_false_iff_not, beq_iff_eq, bne_iff_ne, bne_eq_false_iff_eq, beq_eq_false_iff_ne, ne_eq, Bool.not_eq_true', Bool.not_eq_false', not_true_eq_false, not_false_eq_true]; omega)) ?_) | (refine awp_cond rfl (fun hb => ?_) (fun hb => ?_) <;> (try simp only [decide_eq_true_eq, decide_eq_false_iff_not, Bool.not_eq_true', Bool.not_eq_false', Bool.true_eq_false, Bool.false_eq_true, beq_iff_eq, bne_iff_ne, Bool.or_eq_true, Bool.and_eq_true, Bool.or_eq_false_iff, Bool.and_eq_false_iff, bne_eq_false_iff_eq, beq_eq_false_iff_ne, gt_iff_lt, ge_iff_le, Int.reduceEq, Int.reduceNe, Int.reduceLT, Int.reduceLE, ne_eq, not_true_eq_false, not_false_eq_true] at hb)) | ((first | refine awg_split (fun hb => ?_) (fun hb => ?_) | refine awsg_split (fun hb => ?_) (fun hb => ?_)) <;> have hb0 := hb <;> (try simp only [decide_eq_true_eq, decide_eq_false_iff_not, Bool.not_eq_true', Bool.not_eq_false', Bool.true_eq_false, Bool.false_eq_true, beq_iff_eq, bne_iff_ne, Bool.or_eq_true, Bool.and_eq_true, Bool.or_eq_false_iff, Bool.and_eq_false_iff, bne_eq_false_iff_eq, beq_eq_false_iff_ne, gt_iff_lt, ge_iff_le, Int.reduceEq, Int.reduceNe, Int.reduceLT, Int.reduceLE, ne_eq, not_true_eq_false, not_false_eq_true] at hb0) <;> (try simp only [beq_true, beq_false, Bool.not_eq_true', Bool.not_eq_false'] at hb) <;> (simp only [go_sem, Nat.reduceAdd, Nat.reduceSub, Nat.reduceMul, Nat.reduceLeDiff, Nat.reduceLT, Nat.reduceEqDiff, Int.reduceToNat, Int.reduceAdd, Int.reduceMul, Int.reduceSub, Int.reduceLT, Int.reduceLE, Int.reduceEq, Int.reduceNeg, Int.reduceBEq, Int.reduceBNe, ↓reduceIte, reduceCtorEq, List.length_map, Nat.mul_one, hg, e1, e2, hb, hb0] <;> try simp (disch := omega) only [wrap_of])) | (refine And.intro ?_ ?_) | refine awp_skip ?_ | refine awp_ret ?_ | refine awp_exit ?_ | refine awp_label ?_ | refine awloop_step ?_ | fail)
    (refine resX ?_; try exact True.intro)
    simp [refRunS, hfit]
  | false =>
    simp only [hfit] at g1
    (refine ARun.intro Tryd.func10 rfl Tryd.call10 Tryd.ntmps10 Tryd.results10 ?_; simp only [List.length_cons, List.length_nil, List.length_map, Nat.reduceAdd, Nat.reduceSub, List.replicate_succ, List.replicate_zero, List.cons_append, List.nil_append])
    repeat' (first | refine awp_seq ?_ | refine awp_block ?_ | refine awp_scope ?_ | ((first | refine awp_region_k fun Kn Kp hn hp => ?_ | show AWP _ _ (Code.region 4 _ true) _ _ _; refine awp_drawn_k (id := 4) [9] [] [.win [0], .win [0], .win [0], .win [0], .win [0], .win [0], .win [0], .win [0], .win [0], .eff 0, .win [1], .win [1], .win [1], .win [1], .win [1], .win [1], .win [1]] 1 rfl (by as_aux_lemma => kernel_rfl) fun Kn Kp hn hp => ?_ | refine oge_intro (by assumption) ?_ | (show AWE _ _ _ _ _ _ _ _ _; first | refine awe_intro (g1 _) ?_) | (show AWSF _ _ _ _ _ _ _ _ _ _ _; first | refine awsf_intro (g1 _) (fun hrun => ?_)) | (show OGE _ _ _ _ _ _ _; first | refine oge_intro (g1 _) ?_) | (show AWSE _ _ _ _ _ _ _ _ _ _ _; first | refine awse_intro (g1 _) (fun hrun => ?_)) | (show PGE _ _ _ _ _; first | refine pge_intro (g1 _) (fun tm' => ?_))) <;> (simp only [go_sem, Nat.reduceAdd, Nat.reduceSub, Nat.reduceMul, Nat.reduceLeDiff, Nat.reduceLT, Nat.reduceEqDiff, Int.reduceToNat, Int.reduceAdd, Int.reduceMul, Int.reduceSub, Int.reduceLT, Int.reduceLE, Int.reduceEq, Int.reduceNeg, Int.reduceBEq, Int.reduceBNe, ↓reduceIte, reduceCtorEq, List.length_map] <;> try simp (disch := omega) only [wrap_of])) | (refine hn _ _ ?_; clear hn hp Kn Kp) | (refine hp _ _ _ ?_; clear hn hp Kn Kp) | (simp (disch := omega) only [go_sem, Nat.reduceAdd, Nat.reduceSub, Nat.reduceMul, Nat.reduceLeDiff, Nat.reduceLT, Nat.reduceEqDiff, Int.reduceToNat, Int.reduceAdd, Int.reduceMul, Int.reduceSub, Int.reduceLT, Int.reduceLE, Int.reduceEq, Int.reduceNeg, Int.reduceBEq, Int.reduceBNe, ↓reduceIte, reduceCtorEq, List.length_map, if_pos, if_neg, decide_pos', decide_neg', beq_pos', beq_neg', bne_pos', bne_neg', getE, wrap_of]) | (refine awp_cond_t rfl (by first | with_reducible rfl | (simp only [Bool.and_eq_true, Bool.or_eq_true, Bool.and_eq_false_iff, Bool.or_eq_false_iff, decide_eq_true_eq, decide_eq_false_iff_not, beq_iff_eq, bne_iff_ne, bne_eq_false_iff_eq, beq_eq_false_iff_ne, ne_eq, Bool.not_eq_true', Bool.not_eq_false', not_true_eq_false, not_false_eq_true]; omega)) ?_) | (refine awp_cond_f rfl (by first | with_reducible rfl | (simp only [Bool.and_eq_true, Bool.or_eq_true, Bool.and_eq_false_iff, Bool.or_eq_false_iff, decide_eq_true_eq, decide_eq_false_iff_not, beq_iff_eq, bne_iff_ne, bne_eq_false_iff_eq, beq_eq_false_iff_ne, ne_eq, Bool.not_eq_true', Bool.not_eq_false', not_true_eq_false, not_false_eq_true]; omega)) ?_) | (refine awp_cond rfl (fun hb => ?_) (fun hb => ?_) <;> (try simp only [decide_eq_true_eq, decide_eq_false_iff_not, Bool.not_eq_true', Bool.not_eq_false', Bool.true_eq_false, Bool.false_eq_true, beq_iff_eq, bne_iff_ne, Bool.or_eq_true, Bool.and_eq_true, Bool.or_eq_false_iff, Bool.and_eq_false_iff, bne_eq_false_iff_eq, beq_eq_false_iff_ne, gt_iff_lt, ge_iff_le, Int.reduceEq, Int.reduceNe, Int.reduceLT, Int.reduceLE, ne_eq, not_true_eq_false, not_false_eq_true] at hb)) | ((first | refine awg_split (fun hb => ?_) (fun hb => ?_) | refine awsg_split (fun hb => ?_) (fun hb => ?_)) <;> have hb0 := hb <;> (try simp only [decide_eq_true_eq, decide_eq_false_iff_not, Bool.not_eq_true', Bool.not_eq_false', Bool.true_eq_false, Bool.false_eq_true, beq_iff_eq, bne_iff_ne, Bool.or_eq_true, Bool.and_eq_true, Bool.or_eq_false_iff, Bool.and_eq_false_iff, bne_eq_false_iff_eq, beq_eq_false_iff_ne, gt_iff_lt, ge_iff_le, Int.reduceEq, Int.reduceNe, Int.reduceLT, Int.reduceLE, ne_eq, not_true_eq_false, not_false_eq_true] at hb0) <;> (try simp only [beq_true, beq_false, Bool.not_eq_true', Bool.not_eq_false'] at hb) <;> (simp only [go_sem, Nat.reduceAdd, Nat.reduceSub, Nat.reduceMul, Nat.reduceLeDiff, Nat.reduceLT, Nat.reduceEqDiff, Int.reduceToNat, Int.reduceAdd, Int.reduceMul, Int.reduceSub, Int.reduceLT, Int.reduceLE, Int.reduceEq, Int.reduceNeg, Int.reduceBEq, Int.reduceBNe, ↓reduceIte, reduceCtorEq, List.length_map, hb, hb0] <;> try simp (disch := omega) only [wrap_of])) | (refine And.intro ?_ ?_) | refine awp_skip ?_ | refine awp_ret ?_ | refine awp_exit ?_ | refine awp_label ?_ | refine awloop_step ?_ | fail)
    refine ⟨_, rfl, _, rfl, Fin.pureC 2 ?_⟩
    simp only [AV.low, List.map_cons, List.map_nil, refRunS, hfit, Bool.false_eq_true, if_false, runL, runE]
    exact Cv.tup ⟨Cv.nil (by decide), Cv.refl _, trivial⟩
theorem RSteps_run : ARun Tryd.prog 12 [.rs 5 (vs.map encV), agC c, .rs 1 (rI st), agL x] H0
    (.ret (.tup [.i (stepsN vs c st x), .i (stepsE vs c st x)]) H0) := by
  have g1 := fun H0 => RFits_run vs c st x h1 h2 hf H0
  cases hfit : fitsS vs c st x with
  | true =>
    have g2 := fun H0 => RTr_run vs c st x h1 h2 hf hfit H0
    have hev := call_ev (fits_all hfit).2.2
    have hg := hand_get (c := c) hev
    obtain ⟨e1, e2⟩ := hev
    simp only [hfit] at g1
    (refine ARun.intro Tryd.func12 rfl Tryd.call12 Tryd.ntmps12 Tryd.results12 ?_; simp only [List.length_cons, List.length_nil, List.length_map, Nat.reduceAdd, Nat.reduceSub, List.replicate_succ, List.replicate_zero, List.cons_append, List.nil_append])
    repeat' (first | refine awp_seq ?_ | refine awp_block ?_ | refine awp_scope ?_ | ((first | refine awp_region_k fun Kn Kp hn hp => ?_ | show AWP _ _ (Code.region 4 _ true) _ _ _; refine awp_drawn_k (id := 4) [9] [] [.win [0], .win [0], .win [0], .win [0], .win [0], .win [0], .win [0], .win [0], .win [0], .eff 0, .win [1], .win [1], .win [1], .win [1], .win [1], .win [1], .win [1]] 1 rfl (by as_aux_lemma => kernel_rfl) fun Kn Kp hn hp => ?_ | refine oge_intro (by assumption) ?_ | (show AWE _ _ _ _ _ _ _ _ _; first | refine awe_intro (g1 _) ?_ | refine awe_intro (g2 _) ?_) | (show AWSF _ _ _ _ _ _ _ _ _ _ _; first | refine awsf_intro (g1 _) (fun hrun => ?_) | refine awsf_intro (g2 _) (fun hrun => ?_)) | (show OGE _ _ _ _ _ _ _; first | refine oge_intro (g1 _) ?_ | refine oge_intro (g2 _) ?_) | (show AWSE _ _ _ _ _ _ _ _ _ _ _; first | refine awse_intro (g1 _) (fun hrun => ?_) | refine awse_intro (g2 _) (fun hrun => ?_)) | (show PGE _ _ _ _ _; first | refine pge_intro (g1 _) (fun tm' => ?_) | refine pge_intro (g2 _) (fun tm' => ?_))) <;> (simp only [go_sem, Nat.reduceAdd, Nat.reduceSub, Nat.reduceMul, Nat.reduceLeDiff, Nat.reduceLT, Nat.reduceEqDiff, Int.reduceToNat, Int.reduceAdd, Int.reduceMul, Int.reduceSub, Int.reduceLT, Int.reduceLE, Int.reduceEq, Int.reduceNeg, Int.reduceBEq, Int.reduceBNe, ↓reduceIte, reduceCtorEq, List.length_map, Nat.mul_one, hg, e1, e2] <;> try simp (disch := omega) only [wrap_of])) | (refine hn _ _ ?_; clear hn hp Kn Kp) | (refine hp _ _ _ ?_; clear hn hp Kn Kp) | (simp (disch := omega) only [go_sem, Nat.reduceAdd, Nat.reduceSub, Nat.reduceMul, Nat.reduceLeDiff, Nat.reduceLT, Nat.reduceEqDiff, Int.reduceToNat, Int.reduceAdd, Int.reduceMul, Int.reduceSub, Int.reduceLT, Int.reduceLE, Int.reduceEq, Int.reduceNeg, Int.reduceBEq, Int.reduceBNe, ↓reduceIte, reduceCtorEq, List.length_map, Nat.mul_one, hg, e1, e2, if_pos, if_neg, decide_pos', decide_neg', beq_pos', beq_neg', bne_pos', bne_neg', getE, wrap_of]) | (refine awp_cond_t rfl (by first | with_reducible rfl | (simp only [Bool.and_eq_true, Bool.or_eq_true, Bool.and_eq_false_iff, Bool.or_eq_false_iff, decide_eq_true_eq, decide_eq_false_iff_not, beq_iff_eq, bne_iff_ne, bne_eq_false_iff_eq, beq_eq_false_iff_ne, ne_eq, Bool.not_eq_true', Bool.not_eq_false', not_true_eq_false, not_false_eq_true]; omega)) ?_) | (refine awp_cond_f rfl (by first | with_reducible rfl | (simp only [Bool.and_eq_true, Bool.or_eq_true, Bool.and_eq_false_iff, Bool.or_eq_false_iff, decide_eq_true_eq, decide_eq_false_iff_not, beq_iff_eq, bne_iff_ne, bne_eq_false_iff_eq, beq_eq_false_iff_ne, ne_eq, Bool.not_eq_true', Bool.not_eq_false', not_true_eq_false, not_false_eq_true]; omega)) ?_) | (refine awp_cond rfl (fun hb => ?_) (fun hb => ?_) <;> (try simp only [decide_eq_true_eq, decide_eq_false_iff_not, Bool.not_eq_true', Bool.not_eq_false', Bool.true_eq_false, Bool.false_eq_true, beq_iff_eq, bne_iff_ne, Bool.or_eq_true, Bool.and_eq_true, Bool.or_eq_false_iff, Bool.and_eq_false_iff, bne_eq_false_iff_eq, beq_eq_false_iff_ne, gt_iff_lt, ge_iff_le, Int.reduceEq, Int.reduceNe, Int.reduceLT, Int.reduceLE, ne_eq, not_true_eq_false, not_false_eq_true] at hb)) | ((first | refine awg_split (fun hb => ?_) (fun hb => ?_) | refine awsg_split (fun hb => ?_) (fun hb => ?_)) <;> have hb0 := hb <;> (try simp only [decide_eq_true_eq, decide_eq_false_iff_not, Bool.not_eq_true', Bool.not_eq_false', Bool.true_eq_false, Bool.false_eq_true, beq_iff_eq, bne_iff_ne, Bool.or_eq_true, Bool.and_eq_true, Bool.or_eq_false_iff, Bool.and_eq_false_iff, bne_eq_false_iff_eq, beq_eq_false_iff_ne, gt_iff_lt, ge_iff_le, Int.reduceEq, Int.reduceNe, Int.reduceLT, Int.reduceLE, ne_eq, not_true_eq_false, not_false_eq_true] at hb0) <;> (try simp only [beq_true, beq_false, Bool.not_eq_true', Bool.not_eq_false'] at hb) <;> (simp only [go_sem, Nat.reduceAdd, Nat.reduceSub, Nat.reduceMul, Nat.reduceLeDiff, Nat.reduceLT, Nat.reduceEqDiff, Int.reduceToNat, Int.reduceAdd, Int.reduceMul, Int.reduceSub, Int.reduceLT, Int.reduceLE, Int.reduceEq, Int.reduceNeg, Int.reduceBEq, Int.reduceBNe, ↓reduceIte, reduceCtorEq, List.length_map, Nat.mul_one, hg, e1, e2, hb, hb0] <;> try simp (disch := omega) only [wrap_of])) | (refine And.intro ?_ ?_) | refine awp_skip ?_ | refine awp_ret ?_ | refine awp_exit ?_ | refine awp_label ?_ | refine awloop_step ?_ | fail)
    (refine resX ?_; try exact True.intro)
    simp [stepsN, stepsE, hfit]
  | false =>
    simp only [hfit] at g1
    (refine ARun.intro Tryd.func12 rfl Tryd.call12 Tryd.ntmps12 Tryd.results12 ?_; simp only [List.length_cons, List.length_nil, List.length_map, Nat.reduceAdd, Nat.reduceSub, List.replicate_succ, List.replicate_zero, List.cons_append, List.nil_append])
    repeat' (first | refine awp_seq ?_ | refine awp_block ?_ | refine awp_scope ?_ | ((first | refine awp_region_k fun Kn Kp hn hp => ?_ | show AWP _ _ (Code.region 4 _ true) _ _ _; refine awp_drawn_k (id := 4) [9] [] [.win [0], .win [0], .win [0], .win [0], .win [0], .win [0], .win [0], .win [0], .win [0], .eff 0, .win [1], .win [1], .win [1], .win [1], .win [1], .win [1], .win [1]] 1 rfl (by as_aux_lemma => kernel_rfl) fun Kn Kp hn hp => ?_ | refine oge_intro (by assumption) ?_ | (show AWE _ _ _ _ _ _ _ _ _; first | refine awe_intro (g1 _) ?_) | (show AWSF _ _ _ _ _ _ _ _ _ _ _; first | refine awsf_intro (g1 _) (fun hrun => ?_)) | (show OGE _ _ _ _ _ _ _; first | refine oge_intro (g1 _) ?_) | (show AWSE _ _ _ _ _ _ _ _ _ _ _; first | refine awse_intro (g1 _) (fun hrun => ?_)) | (show PGE _ _ _ _ _; first | refine pge_intro (g1 _) (fun tm' => ?_))) <;> (simp only [go_sem, Nat.reduceAdd, Nat.reduceSub, Nat.reduceMul, Nat.reduceLeDiff, Nat.reduceLT, Nat.reduceEqDiff, Int.reduceToNat, Int.reduceAdd, Int.reduceMul, Int.reduceSub, Int.reduceLT, Int.reduceLE, Int.reduceEq, Int.reduceNeg, Int.reduceBEq, Int.reduceBNe, ↓reduceIte, reduceCtorEq, List.length_map] <;> try simp (disch := omega) only [wrap_of])) | (refine hn _ _ ?_; clear hn hp Kn Kp) | (refine hp _ _ _ ?_; clear hn hp Kn Kp) | (simp (disch := omega) only [go_sem, Nat.reduceAdd, Nat.reduceSub, Nat.reduceMul, Nat.reduceLeDiff, Nat.reduceLT, Nat.reduceEqDiff, Int.reduceToNat, Int.reduceAdd, Int.reduceMul, Int.reduceSub, Int.reduceLT, Int.reduceLE, Int.reduceEq, Int.reduceNeg, Int.reduceBEq, Int.reduceBNe, ↓reduceIte, reduceCtorEq, List.length_map, if_pos, if_neg, decide_pos', decide_neg', beq_pos', beq_neg', bne_pos', bne_neg', getE, wrap_of]) | (refine awp_cond_t rfl (by first | with_reducible rfl | (simp only [Bool.and_eq_true, Bool.or_eq_true, Bool.and_eq_false_iff, Bool.or_eq_false_iff, decide_eq_true_eq, decide_eq_false_iff_not, beq_iff_eq, bne_iff_ne, bne_eq_false_iff_eq, beq_eq_false_iff_ne, ne_eq, Bool.not_eq_true', Bool.not_eq_false', not_true_eq_false, not_false_eq_true]; omega)) ?_) | (refine awp_cond_f rfl (by first | with_reducible rfl | (simp only [Bool.and_eq_true, Bool.or_eq_true, Bool.and_eq_false_iff, Bool.or_eq_false_iff, decide_eq_true_eq, decide_eq_false_iff_not, beq_iff_eq, bne_iff_ne, bne_eq_false_iff_eq, beq_eq_false_iff_ne, ne_eq, Bool.not_eq_true', Bool.not_eq_false', not_true_eq_false, not_false_eq_true]; omega)) ?_) | (refine awp_cond rfl (fun hb => ?_) (fun hb => ?_) <;> (try simp only [decide_eq_true_eq, decide_eq_false_iff_not, Bool.not_eq_true', Bool.not_eq_false', Bool.true_eq_false, Bool.false_eq_true, beq_iff_eq, bne_iff_ne, Bool.or_eq_true, Bool.and_eq_true, Bool.or_eq_false_iff, Bool.and_eq_false_iff, bne_eq_false_iff_eq, beq_eq_false_iff_ne, gt_iff_lt, ge_iff_le, Int.reduceEq, Int.reduceNe, Int.reduceLT, Int.reduceLE, ne_eq, not_true_eq_false, not_false_eq_true] at hb)) | ((first | refine awg_split (fun hb => ?_) (fun hb => ?_) | refine awsg_split (fun hb => ?_) (fun hb => ?_)) <;> have hb0 := hb <;> (try simp only [decide_eq_true_eq, decide_eq_false_iff_not, Bool.not_eq_true', Bool.not_eq_false', Bool.true_eq_false, Bool.false_eq_true, beq_iff_eq, bne_iff_ne, Bool.or_eq_true, Bool.and_eq_true, Bool.or_eq_false_iff, Bool.and_eq_false_iff, bne_eq_false_iff_eq, beq_eq_false_iff_ne, gt_iff_lt, ge_iff_le, Int.reduceEq, Int.reduceNe, Int.reduceLT, Int.reduceLE, ne_eq, not_true_eq_false, not_false_eq_true] at hb0) <;> (try simp only [beq_true, beq_false, Bool.not_eq_true', Bool.not_eq_false'] at hb) <;> (simp only [go_sem, Nat.reduceAdd, Nat.reduceSub, Nat.reduceMul, Nat.reduceLeDiff, Nat.reduceLT, Nat.reduceEqDiff, Int.reduceToNat, Int.reduceAdd, Int.reduceMul, Int.reduceSub, Int.reduceLT, Int.reduceLE, Int.reduceEq, Int.reduceNeg, Int.reduceBEq, Int.reduceBNe, ↓reduceIte, reduceCtorEq, List.length_map, hb, hb0] <;> try simp (disch := omega) only [wrap_of])) | (refine And.intro ?_ ?_) | refine awp_skip ?_ | refine awp_ret ?_ | refine awp_exit ?_ | refine awp_label ?_ | refine awloop_step ?_ | fail)
    (refine resX ?_; try exact True.intro)
    simp [stepsN, stepsE, hfit]
end
end Go.Proofs.YtimmncjdknlegaaDoor.Y

set_option maxHeartbeats 8000000
set_option maxRecDepth 100000
set_option linter.unusedVariables false
set_option linter.unusedSimpArgs false
set_option linter.unusedSectionVars false
namespace Go.Proofs.YtimmncjdknlegaaDoor.Y
open Go.Proofs.YtimmncjdknlegaaDoor.AL Go.Proofs Go
attribute [local irreducible] AWP AWL AWG AWR AWE AWX AWO AWSeq AWSG AWSR AWSO AWSE AWSF GoodP OGW OGR OGE OGX PGW PGR PGE Wk AWLoop AWPD AWLD

theorem MMR_run (vs : List Vr) (c : Cod) (st : List Int) (x : Cal) (hf : CodFine c) (hv : vs.length ≤ 2000000) (hs : st.length ≤ 2000000) :
    ARun Tryd.prog 3 [.rs 5 (vs.map encV), agC c, .rs 1 (rI st), agL x] [] (.ret (.b true) []) := by
  have h0 := fun H0 => head_run H0
  have h1 := fun H0 => RShort_run c 4100 H0
  have r1 := fun H0 => MRun_run vs c st x hv hs hf H0
  have r2 := fun H0 => RRun_run vs c st x hv hs hf H0
  have r3 := fun H0 => MSteps_run vs c st x hv hs hf H0
  have r4 := fun H0 => RSteps_run vs c st x hv hs hf H0
  have r5 := fun H0 => Ints_run (runL (refRunS vs c st x)) (runL (refRunS vs c st x)) (by have := refRun_len vs c st x; omega) H0
  rw [beq_self_eq_true] at r5
  (refine ARun.intro Tryd.func3 rfl Tryd.call3 Tryd.ntmps3 Tryd.results3 ?_; simp only [List.length_cons, List.length_nil, List.length_map, Nat.reduceAdd, Nat.reduceSub, List.replicate_succ, List.replicate_zero, List.cons_append, List.nil_append])
  (have w1 := h0; have c1 := fun z1 => h0 z1; have c2 := fun z1 => h1 z1; have c3 := fun z1 => r1 z1; have c4 := fun z1 => r2 z1; have c5 := fun z1 => r3 z1; have c6 := fun z1 => r4 z1; have c7 := fun z1 => r5 z1; refine wkO ?_; clear w1 c1 c2 c3 c4 c5 c6 c7; (repeat' first | exact True.intro | refine Lf.mk ?_ ?_); all_goals intro hP)
  all_goals ((refine resX ?_; try exact True.intro))
end Go.Proofs.YtimmncjdknlegaaDoor.Y

namespace Go.Proofs.YtimmncjdknlegaaDoor.Y
open Go.Proofs.YtimmncjdknlegaaDoor.AL Go.Proofs Go
attribute [local irreducible] AWP AWL AWG AWR AWE AWX AWO AWSeq AWSG AWSR AWSO AWSE AWSF GoodP OGW OGR OGE OGX PGW PGR PGE Wk AWLoop AWPD AWLD
abbrev bk (H : Type) (d : DataW H) : Nat := Go.Proofs.YtimmncjdknlegaaDoor.Rows.uptoBulk d
abbrev bkl (H : Type) (d : List (DataW H)) : Nat := Go.Proofs.YtimmncjdknlegaaDoor.Rows.uptoBulkAll d
theorem bulk : Bulk bk bkl where
  lit := fun H l => by cases l <;> simp [bk, Go.Proofs.YtimmncjdknlegaaDoor.Rows.uptoBulk]
  str := fun H b => by simp [bk, Go.Proofs.YtimmncjdknlegaaDoor.Rows.uptoBulk]
  nil := fun H => by simp [bk, Go.Proofs.YtimmncjdknlegaaDoor.Rows.uptoBulk]
  slice := fun H es sp => by simp [bk, bkl, Go.Proofs.YtimmncjdknlegaaDoor.Rows.uptoBulk]
  agg := fun H ps => by simp [bk, bkl, Go.Proofs.YtimmncjdknlegaaDoor.Rows.uptoBulk]
  lnil := fun H => by simp [bkl, Go.Proofs.YtimmncjdknlegaaDoor.Rows.uptoBulkAll]
  lcons := fun H d l => by simp [bk, bkl, Go.Proofs.YtimmncjdknlegaaDoor.Rows.uptoBulkAll]

theorem laidOut : laidOutB Tryd.prog = true := by kernel_rfl
theorem own : ownKnob Tryd.prog.godebug = none := by kernel_rfl
theorem len1 {α : Type} {l : List α} (h : l.length = 1) : ∃ a, l = [a] := by
  match l, h with | [a], _ => exact ⟨a, rfl⟩
theorem bulk_bound {H : Type} {l : List (DataW H)} (hk : Go.Proofs.YtimmncjdknlegaaDoor.Rows.uptoSmall H l = true) : bkl H l ≤ 1048576 := of_decide_eq_true hk
end Go.Proofs.YtimmncjdknlegaaDoor.Y

set_option maxRecDepth 20000
set_option linter.unusedVariables false
set_option linter.unusedSimpArgs false
namespace Go.Proofs.YtimmncjdknlegaaDoor.Y
open Go.Proofs.YtimmncjdknlegaaDoor.AL Go.Proofs Go
attribute [local irreducible] AWP AWL AWG AWR AWE AWX AWO AWSeq AWSG AWSR AWSO AWSE AWSF GoodP OGW OGR OGE OGX PGW PGR PGE Wk AWLoop AWPD AWLD
theorem rdIn : ∀ n, Rd Tryd.prog bk n 42 encI (fun _ => 1) (fun _ => True) := by
  intro n
  induction n with
  | zero => exact Rd.zero
  | succ n ih =>
    intro H e w sp hd fuel cs x hn h hlt
    obtain ⟨xs, m, hm, hc, hx, hb, hf, hl⟩ := trod_fields bulk Tryd.underlying42 hn h hlt
    rw [show Tryd.prog.cellsOf 42 = 3 from by kernel_rfl] at hc
    obtain ⟨x0, x1, x2, rfl⟩ : ∃ x0 x1 x2, xs = [x0, x1, x2] := by
      match xs, hx with | [x0, x1, x2], _ => exact ⟨x0, x1, x2, rfl⟩
    obtain ⟨c0, c1, c2, rfl⟩ : ∃ c0 c1 c2, cs = [c0, c1, c2] := by
      match cs, hc with | [c0, c1, c2], _ => exact ⟨c0, c1, c2, rfl⟩
    simp only [List.map_cons, List.map_nil, bulk.lcons, bulk.lnil] at hb
    have f0 := hf 0 _ rfl
    have f1 := hf 1 _ rfl
    have f2 := hf 2 _ rfl
    simp only [show Tryd.prog.cellsOf 3 = 1 from by kernel_rfl, List.drop_zero, List.drop_succ_cons, List.take_succ_cons, List.take_zero, List.getElem?_cons_zero, List.getElem?_cons_succ] at f0 f1 f2
    obtain ⟨a0, r0, m0, p0⟩ := (Rd.int bulk (n := n) Tryd.underlying3) hm f0 (hl x0 (by simp))
    obtain ⟨a1, r1, m1, p1⟩ := (Rd.int bulk (n := n) Tryd.underlying3) hm f1 (hl x1 (by simp))
    obtain ⟨a2, r2, m2, p2⟩ := (Rd.int bulk (n := n) Tryd.underlying3) hm f2 (hl x2 (by simp))
    (try dsimp only at m0); (try dsimp only at m1); (try dsimp only at m2)
    refine ⟨⟨a0, a1, a2⟩, ?_, ?_, trivial⟩
    · exact r0.append (r1.append (r2))
    · dsimp only; omega
theorem rdIns (n : Nat) : Rd Tryd.prog bk n 23 (fun l : List Ins => [.rs 3 (l.map encI)]) (fun l => sumM (fun _ => 1) l + 1) (fun l => ∀ a ∈ l, True) :=
  Rd.le (Rd.slice bulk (n := n) Tryd.underlying23 (by kernel_rfl) (by decide) (rdIn n) (fun _ => rfl)) (Nat.le_succ n)
theorem rdI1 (n : Nat) : Rd Tryd.prog bk n 27 (fun l : List Int => [.rs 1 (rI l)]) (fun l => sumM (fun _ => 1) l + 1) (fun l => ∀ a ∈ l, (Lit.int .i64 a).wf = true) :=
  Rd.le (Rd.slice bulk (n := n) Tryd.underlying27 (by kernel_rfl) (by decide) (Rd.int bulk (n := n) Tryd.underlying3) (fun _ => rfl)) (Nat.le_succ n)
theorem rdV : ∀ n, Rd Tryd.prog bk n 59 encV wV (fun _ => True) := by
  intro n
  induction n with
  | zero => exact Rd.zero
  | succ n ih =>
    intro H e w sp hd fuel cs x hn h hlt
    obtain ⟨xs, m, hm, hc, hx, hb, hf, hl⟩ := trod_fields bulk Tryd.underlying59 hn h hlt
    rw [show Tryd.prog.cellsOf 59 = 5 from by kernel_rfl] at hc
    obtain ⟨x0, x1, x2, x3, x4, rfl⟩ : ∃ x0 x1 x2 x3 x4, xs = [x0, x1, x2, x3, x4] := by
      match xs, hx with | [x0, x1, x2, x3, x4], _ => exact ⟨x0, x1, x2, x3, x4, rfl⟩
    obtain ⟨c0, c1, c2, c3, c4, rfl⟩ : ∃ c0 c1 c2 c3 c4, cs = [c0, c1, c2, c3, c4] := by
      match cs, hc with | [c0, c1, c2, c3, c4], _ => exact ⟨c0, c1, c2, c3, c4, rfl⟩
    simp only [List.map_cons, List.map_nil, bulk.lcons, bulk.lnil] at hb
    have f0 := hf 0 _ rfl
    have f1 := hf 1 _ rfl
    have f2 := hf 2 _ rfl
    have f3 := hf 3 _ rfl
    have f4 := hf 4 _ rfl
    simp only [show Tryd.prog.cellsOf 3 = 1 from by kernel_rfl, show Tryd.prog.cellsOf 9 = 1 from by kernel_rfl, List.drop_zero, List.drop_succ_cons, List.take_succ_cons, List.take_zero, List.getElem?_cons_zero, List.getElem?_cons_succ] at f0 f1 f2 f3 f4
    obtain ⟨a0, r0, m0, p0⟩ := (Rd.str bulk (n := n) Tryd.underlying9) hm f0 (hl x0 (by simp))
    obtain ⟨a1, r1, m1, p1⟩ := (Rd.int bulk (n := n) Tryd.underlying3) hm f1 (hl x1 (by simp))
    obtain ⟨a2, r2, m2, p2⟩ := (Rd.int bulk (n := n) Tryd.underlying3) hm f2 (hl x2 (by simp))
    obtain ⟨a3, r3, m3, p3⟩ := (Rd.int bulk (n := n) Tryd.underlying3) hm f3 (hl x3 (by simp))
    obtain ⟨a4, r4, m4, p4⟩ := (Rd.int bulk (n := n) Tryd.underlying3) hm f4 (hl x4 (by simp))
    (try dsimp only at m0); (try dsimp only at m1); (try dsimp only at m2); (try dsimp only at m3); (try dsimp only at m4)
    refine ⟨⟨a0, a1, a2, a3, a4⟩, ?_, ?_, trivial⟩
    · exact r0.append (r1.append (r2.append (r3.append (r4))))
    · simp only [wV]; omega
theorem rdVs (n : Nat) : Rd Tryd.prog bk n 22 (fun l : List Vr => [.rs 5 (l.map encV)]) (fun l => sumM wV l + 1) (fun l => ∀ a ∈ l, True) :=
  Rd.le (Rd.slice bulk (n := n) Tryd.underlying22 (by kernel_rfl) (by decide) (rdV n) (fun _ => rfl)) (Nat.le_succ n)
def wI (l : List Ins) : Nat := sumM (fun _ => 1) l + 1
theorem wI_len (l : List Ins) : l.length < wI l := by
  have : ∀ l : List Ins, sumM (fun _ => 1) l = l.length := by
    intro l; induction l with
    | nil => rfl
    | cons x xs ih => simp only [sumM, List.length_cons, ih]; omega
  unfold wI; rw [this]; omega
def wC (c : Cod) : Nat := wI c.c0 + wI c.c1 + wI c.c2 + wI c.c3 + wI c.c4
abbrev cCod (c : Cod) : List PV := [.rs 3 (c.c0.map encI), .rs 3 (c.c1.map encI), .rs 3 (c.c2.map encI), .rs 3 (c.c3.map encI), .rs 3 (c.c4.map encI)]
theorem rdC5 : ∀ n, Rd Tryd.prog bk n 24 cCod wC (fun _ => True) := by
  intro n
  cases n with
  | zero => exact Rd.zero
  | succ n =>
    intro H e w sp hd fuel cs x hn h hlt
    obtain ⟨xs, m, hm, hc, hx, hb, hf, hl⟩ := trod_items bulk Tryd.underlying24 hn h hlt
    rw [show Tryd.prog.cellsOf 24 = 5 from by kernel_rfl] at hc
    obtain ⟨x0, x1, x2, x3, x4, rfl⟩ : ∃ x0  x1  x2  x3  x4, xs = [x0, x1, x2, x3, x4] := by
      match xs, hx with | [x0, x1, x2, x3, x4], _ => exact ⟨x0, x1, x2, x3, x4, rfl⟩
    obtain ⟨c0, c1, c2, c3, c4, rfl⟩ : ∃ c0  c1  c2  c3  c4, cs = [c0, c1, c2, c3, c4] := by
      match cs, hc with | [c0, c1, c2, c3, c4], _ => exact ⟨c0, c1, c2, c3, c4, rfl⟩
    simp only [List.map_cons, List.map_nil, bulk.lcons, bulk.lnil] at hb
    have f0 := hf 0 (by omega)
    have f1 := hf 1 (by omega)
    have f2 := hf 2 (by omega)
    have f3 := hf 3 (by omega)
    have f4 := hf 4 (by omega)
    simp only [show Tryd.prog.cellsOf 23 = 1 from by kernel_rfl, Nat.reduceMul, List.drop_zero, List.drop_succ_cons, List.take_succ_cons, List.take_zero, List.getElem?_cons_zero, List.getElem?_cons_succ] at f0 f1 f2 f3 f4
    obtain ⟨a0, r0, m0, p0⟩ := rdIns n hm f0 (hl x0 (by simp))
    obtain ⟨a1, r1, m1, p1⟩ := rdIns n hm f1 (hl x1 (by simp))
    obtain ⟨a2, r2, m2, p2⟩ := rdIns n hm f2 (hl x2 (by simp))
    obtain ⟨a3, r3, m3, p3⟩ := rdIns n hm f3 (hl x3 (by simp))
    obtain ⟨a4, r4, m4, p4⟩ := rdIns n hm f4 (hl x4 (by simp))
    dsimp only at m0 m1 m2 m3 m4
    refine ⟨⟨a0, a1, a2, a3, a4⟩, r0.append (r1.append (r2.append (r3.append (r4)))), ?_, trivial⟩
    simp only [wC, wI]; omega
theorem rdC : ∀ n, Rd Tryd.prog bk n 26 cCod wC (fun _ => True) := by
  intro n
  induction n with
  | zero => exact Rd.zero
  | succ n ih =>
    intro H e w sp hd fuel cs x hn h hlt
    obtain ⟨xs, m, hm, hc, hx, hb, hf, hl⟩ := trod_fields bulk Tryd.underlying26 hn h hlt
    rw [show Tryd.prog.cellsOf 26 = 5 from by kernel_rfl] at hc
    obtain ⟨x0, rfl⟩ : ∃ x0, xs = [x0] := by
      match xs, hx with | [x0], _ => exact ⟨x0, rfl⟩
    obtain ⟨c0, c1, c2, c3, c4, rfl⟩ : ∃ c0 c1 c2 c3 c4, cs = [c0, c1, c2, c3, c4] := by
      match cs, hc with | [c0, c1, c2, c3, c4], _ => exact ⟨c0, c1, c2, c3, c4, rfl⟩
    simp only [List.map_cons, List.map_nil, bulk.lcons, bulk.lnil] at hb
    have f0 := hf 0 _ rfl
    simp only [show Tryd.prog.cellsOf 24 = 5 from by kernel_rfl, List.drop_zero, List.drop_succ_cons, List.take_succ_cons, List.take_zero, List.getElem?_cons_zero, List.getElem?_cons_succ] at f0
    obtain ⟨a0, r0, m0, p0⟩ := (rdC5 n) hm f0 (hl x0 (by simp))
    (try dsimp only at m0)
    refine ⟨a0, ?_, ?_, trivial⟩
    · exact r0
    · omega
abbrev I4 := Int × Int × Int × Int
theorem rdI4 : ∀ n, Rd Tryd.prog bk n 28 (fun a : I4 => [.i a.1, .i a.2.1, .i a.2.2.1, .i a.2.2.2]) (fun _ => 1) (fun _ => True) := by
  intro n
  cases n with
  | zero => exact Rd.zero
  | succ n =>
    intro H e w sp hd fuel cs x hn h hlt
    obtain ⟨xs, m, hm, hc, hx, hb, hf, hl⟩ := trod_items bulk Tryd.underlying28 hn h hlt
    rw [show Tryd.prog.cellsOf 28 = 4 from by kernel_rfl] at hc
    obtain ⟨x0, x1, x2, x3, rfl⟩ : ∃ x0  x1  x2  x3, xs = [x0, x1, x2, x3] := by
      match xs, hx with | [x0, x1, x2, x3], _ => exact ⟨x0, x1, x2, x3, rfl⟩
    obtain ⟨c0, c1, c2, c3, rfl⟩ : ∃ c0  c1  c2  c3, cs = [c0, c1, c2, c3] := by
      match cs, hc with | [c0, c1, c2, c3], _ => exact ⟨c0, c1, c2, c3, rfl⟩
    simp only [List.map_cons, List.map_nil, bulk.lcons, bulk.lnil] at hb
    have f0 := hf 0 (by omega)
    have f1 := hf 1 (by omega)
    have f2 := hf 2 (by omega)
    have f3 := hf 3 (by omega)
    simp only [show Tryd.prog.cellsOf 3 = 1 from by kernel_rfl, Nat.reduceMul, List.drop_zero, List.drop_succ_cons, List.take_succ_cons, List.take_zero, List.getElem?_cons_zero, List.getElem?_cons_succ] at f0 f1 f2 f3
    obtain ⟨a0, r0, m0, p0⟩ := Rd.int bulk (n := n) Tryd.underlying3 hm f0 (hl x0 (by simp))
    obtain ⟨a1, r1, m1, p1⟩ := Rd.int bulk (n := n) Tryd.underlying3 hm f1 (hl x1 (by simp))
    obtain ⟨a2, r2, m2, p2⟩ := Rd.int bulk (n := n) Tryd.underlying3 hm f2 (hl x2 (by simp))
    obtain ⟨a3, r3, m3, p3⟩ := Rd.int bulk (n := n) Tryd.underlying3 hm f3 (hl x3 (by simp))
    dsimp only at m0 m1 m2 m3
    refine ⟨(a0, a1, a2, a3), r0.append (r1.append (r2.append (r3))), ?_, trivial⟩
    dsimp only; omega
abbrev cCal (x : Cal) : List PV := [.i x.ev, .i x.i0, .i x.i1, .i x.i2, .i x.i3]
theorem rdL : ∀ n, Rd Tryd.prog bk n 30 cCal (fun _ => 1) (fun _ => True) := by
  intro n
  induction n with
  | zero => exact Rd.zero
  | succ n ih =>
    intro H e w sp hd fuel cs x hn h hlt
    obtain ⟨xs, m, hm, hc, hx, hb, hf, hl⟩ := trod_fields bulk Tryd.underlying30 hn h hlt
    rw [show Tryd.prog.cellsOf 30 = 5 from by kernel_rfl] at hc
    obtain ⟨x0, x1, rfl⟩ : ∃ x0 x1, xs = [x0, x1] := by
      match xs, hx with | [x0, x1], _ => exact ⟨x0, x1, rfl⟩
    obtain ⟨c0, c1, c2, c3, c4, rfl⟩ : ∃ c0 c1 c2 c3 c4, cs = [c0, c1, c2, c3, c4] := by
      match cs, hc with | [c0, c1, c2, c3, c4], _ => exact ⟨c0, c1, c2, c3, c4, rfl⟩
    simp only [List.map_cons, List.map_nil, bulk.lcons, bulk.lnil] at hb
    have f0 := hf 0 _ rfl
    have f1 := hf 1 _ rfl
    simp only [show Tryd.prog.cellsOf 28 = 4 from by kernel_rfl, show Tryd.prog.cellsOf 3 = 1 from by kernel_rfl, List.drop_zero, List.drop_succ_cons, List.take_succ_cons, List.take_zero, List.getElem?_cons_zero, List.getElem?_cons_succ] at f0 f1
    obtain ⟨a0, r0, m0, p0⟩ := (Rd.int bulk (n := n) Tryd.underlying3) hm f0 (hl x0 (by simp))
    obtain ⟨a1, r1, m1, p1⟩ := (rdI4 n) hm f1 (hl x1 (by simp))
    (try dsimp only at m0); (try dsimp only at m1)
    refine ⟨⟨a0, a1.1, a1.2.1, a1.2.2.1, a1.2.2.2⟩, ?_, ?_, trivial⟩
    · exact r0.append (r1)
    · dsimp only; omega
end Go.Proofs.YtimmncjdknlegaaDoor.Y
