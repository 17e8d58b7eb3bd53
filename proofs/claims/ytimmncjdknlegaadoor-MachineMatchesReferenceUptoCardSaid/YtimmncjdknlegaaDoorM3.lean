/- Part 3 of the proofs of seat YtimmncjdknlegaaDoor: what the texts behind it lean on (abstract memory, walks of functions, plain laws). -/
import Derived.Test.YtimmncjdknlegaaDoorM2

set_option maxHeartbeats 8000000
set_option maxRecDepth 100000
set_option linter.unusedVariables false
set_option linter.unusedSimpArgs false
set_option linter.unusedSectionVars false
namespace Go.Proofs.YtimmncjdknlegaaDoor.Y
open Go.Proofs.YtimmncjdknlegaaDoor.AL Go.Proofs Go
attribute [local irreducible] AWP AWL AWG AWR AWE AWX AWO AWSeq AWSG AWSR AWSO AWSE AWSF GoodP OGW OGR OGE OGX PGW PGR PGE Wk AWLoop AWPD AWLD

def effC : List AV := effP.map AV.pv
theorem effC_len : effC.length = 28 := rfl
theorem effC_under {t : TypeId} {m : Nat} : (AObj.cells t effC).under m := by
  intro c hc
  obtain ⟨p, _, rfl⟩ := List.mem_map.1 hc
  simp only [AV.under]
theorem hdr_under {t : TypeId} {n k : Nat} : (AObj.cells t [.os n 0 k k]).under (n + 3) := by
  intro c hc
  rw [List.mem_singleton] at hc
  subst hc
  simp only [AV.under]; omega
theorem effC_get {op : Int} (h : 1 ≤ op ∧ op ≤ 13) : effC[op.toNat * 2]? = some (.i (takes op)) ∧ effC[op.toNat * 2 + 1]? = some (.i (puts op)) := by
  obtain ⟨n, rfl⟩ : ∃ n : Nat, op = n := ⟨op.toNat, by omega⟩
  have h1 : 1 ≤ n := by omega
  have h2 : n ≤ 13 := by omega
  have key : ∀ n : Fin 14, 1 ≤ n.val → effC[n.val * 2]? = some (.i (takes n.val)) ∧ effC[n.val * 2 + 1]? = some (.i (puts n.val)) := by
    intro n hn
    match n, hn with
    | ⟨1, _⟩, _ => exact ⟨rfl, rfl⟩
    | ⟨2, _⟩, _ => exact ⟨rfl, rfl⟩
    | ⟨3, _⟩, _ => exact ⟨rfl, rfl⟩
    | ⟨4, _⟩, _ => exact ⟨rfl, rfl⟩
    | ⟨5, _⟩, _ => exact ⟨rfl, rfl⟩
    | ⟨6, _⟩, _ => exact ⟨rfl, rfl⟩
    | ⟨7, _⟩, _ => exact ⟨rfl, rfl⟩
    | ⟨8, _⟩, _ => exact ⟨rfl, rfl⟩
    | ⟨9, _⟩, _ => exact ⟨rfl, rfl⟩
    | ⟨10, _⟩, _ => exact ⟨rfl, rfl⟩
    | ⟨11, _⟩, _ => exact ⟨rfl, rfl⟩
    | ⟨12, _⟩, _ => exact ⟨rfl, rfl⟩
    | ⟨13, _⟩, _ => exact ⟨rfl, rfl⟩
  exact key ⟨n, by omega⟩ h1
theorem reach_runN (hs : List Int) (n : Nat) (hn' : hs.length = n) (nn : Int) (hnn : 0 ≤ nn ∧ nn < n) (h : Int) (t : TypeId) (cid rid : Nat) (H0 : List AObj) (hc : H0[cid]? = some (.cells t [.os rid 0 n n])) (hr : H0[rid]? = some (rW hs)) (hne : rid ≠ cid) :
    ARun Tryd.prog 45 [.i nn, .i h, .p cid 0] H0 (.ret (.b (hs.getD nn.toNat 0 == -1 || hs.getD nn.toNat 0 == h)) (H0.set rid (rW (hs.set nn.toNat h)))) := by
  obtain ⟨a, rfl⟩ : ∃ a : Nat, nn = a := ⟨nn.toNat, by omega⟩
  rw [Int.toNat_natCast]
  have ha : a < hs.length := by omega
  have := reach_run hs n hn' a (hs.getD a 0) h (by rw [List.getD_eq_getElem?_getD, List.getElem?_eq_getElem ha]; rfl) t cid rid H0 hc hr hne
  exact this
theorem handler_run (l : List Ins) (vars : Int) (hv : 0 ≤ vars ∧ vars ≤ 12) (hl : l.length ≤ 2000000) (H0 : List AObj) :
    ARun Tryd.prog 36 [.rs 3 (l.map encI), .i vars] H0 (.ret (.b (verH l vars)) H0) := by
  by_cases h4 : (4000 : Int) < l.length
  · have h4' : ¬ l.length ≤ 4000 := by omega
    (refine ARun.intro Tryd.func36 rfl Tryd.call36 Tryd.ntmps36 Tryd.results36 ?_; simp only [List.length_cons, List.length_nil, List.length_map, Nat.reduceAdd, Nat.reduceSub, List.replicate_succ, List.replicate_zero, List.cons_append, List.nil_append])
    repeat' (first | refine awp_seq ?_ | refine awp_block ?_ | refine awp_scope ?_ | ((first | refine awp_region_k fun Kn Kp hn hp => ?_ | show AWP _ _ (Code.region 14 _ true) _ _ _; refine awp_drawn_k (id := 14) [11] [] [.win [0], .win [0], .win [0], .win [0], .win [0], .win [0], .win [0], .win [0], .win [0], .win [0], .win [0], .eff 0, .win [1], .win [1], .win [1], .win [1], .win [1], .win [1], .win [1], .win [1], .win [1], .win [1], .win [1], .win [1], .win [1], .win [1]] 1 rfl (by as_aux_lemma => kernel_rfl) fun Kn Kp hn hp => ?_ | show AWP _ _ (Code.region 16 _ true) _ _ _; refine awp_drawn_k (id := 16) [] [] [.win [0], .win [0], .win [0], .win [0], .win [0], .win [0], .win [0], .win [0], .win [0], .win [0], .win [0], .win [0], .win [0], .win [0], .win [0], .win [0], .win [0]] 0 rfl (by as_aux_lemma => kernel_rfl) fun Kn Kp hn hp => ?_ | refine oge_intro (by assumption) ?_) <;> (simp only [go_sem, Nat.reduceAdd, Nat.reduceSub, Nat.reduceMul, Nat.reduceLeDiff, Nat.reduceLT, Nat.reduceEqDiff, Int.reduceToNat, Int.reduceAdd, Int.reduceMul, Int.reduceSub, Int.reduceLT, Int.reduceLE, Int.reduceEq, Int.reduceNeg, Int.reduceBEq, Int.reduceBNe, ↓reduceIte, reduceCtorEq, h4, List.length_map] <;> try simp (disch := omega) only [wrap_of])) | (refine hn _ _ ?_; clear hn hp Kn Kp) | (refine hp _ _ _ ?_; clear hn hp Kn Kp) | (refine awp_cond rfl (fun hb => ?_) (fun hb => ?_) <;> (try simp only [decide_eq_true_eq, decide_eq_false_iff_not, Bool.not_eq_true', Bool.not_eq_false', Bool.true_eq_false, Bool.false_eq_true, beq_iff_eq, bne_iff_ne, bne_eq_false_iff_eq, beq_eq_false_iff_ne, gt_iff_lt, ge_iff_le, Int.reduceEq, Int.reduceNe, Int.reduceLT, Int.reduceLE, ne_eq, not_true_eq_false, not_false_eq_true] at hb)) | ((first | refine awg_split (fun hb => ?_) (fun hb => ?_) | refine awsg_split (fun hb => ?_) (fun hb => ?_)) <;> have hb0 := hb <;> (try simp only [decide_eq_true_eq, decide_eq_false_iff_not, Bool.not_eq_true', Bool.not_eq_false', Bool.true_eq_false, Bool.false_eq_true, beq_iff_eq, bne_iff_ne, bne_eq_false_iff_eq, beq_eq_false_iff_ne, gt_iff_lt, ge_iff_le, Int.reduceEq, Int.reduceNe, Int.reduceLT, Int.reduceLE, ne_eq, not_true_eq_false, not_false_eq_true] at hb0) <;> (try simp only [beq_true, beq_false, Bool.not_eq_true', Bool.not_eq_false'] at hb) <;> (simp only [go_sem, Nat.reduceAdd, Nat.reduceSub, Nat.reduceMul, Nat.reduceLeDiff, Nat.reduceLT, Nat.reduceEqDiff, Int.reduceToNat, Int.reduceAdd, Int.reduceMul, Int.reduceSub, Int.reduceLT, Int.reduceLE, Int.reduceEq, Int.reduceNeg, Int.reduceBEq, Int.reduceBNe, ↓reduceIte, reduceCtorEq, h4, List.length_map, hb, hb0] <;> try simp (disch := omega) only [wrap_of])) | (refine And.intro ?_ ?_) | refine awp_skip ?_ | refine awp_ret ?_ | refine awp_exit ?_ | refine awp_label ?_ | refine awloop_step ?_ | fail)
    (refine resX ?_; try exact True.intro)
    simp [verH, h4']
  · have h4' : l.length ≤ 4000 := by omega
    have w1 : IntKind.i64.wrap ((l.length : Int) + 1) = ((l.length + 1 : Nat) : Int) := by rw [wrap_of (by omega) (by omega)]; omega
    have hk1 : ((l.length + 1 : Nat) : Int) ≤ 281474976710656 := by omega
    have hk2 : 8 * ((l.length + 1 : Nat) : Int) ≤ 281474976710656 := by omega
    have heff := fun H0 => effects_run H0
    (refine ARun.intro Tryd.func36 rfl Tryd.call36 Tryd.ntmps36 Tryd.results36 ?_; simp only [List.length_cons, List.length_nil, List.length_map, Nat.reduceAdd, Nat.reduceSub, List.replicate_succ, List.replicate_zero, List.cons_append, List.nil_append])
    (have w1 := h4; refine wk ?_; clear w1; (repeat' first | exact True.intro | refine Lf.mk ?_ ?_); all_goals intro hP)
    refine awp_drawnO_c (id := 3) [4, 5, 6, 7, 8] [([4, 5, 6, 7, 8], [0, 1, 2, 3, 4, 5, 6, 7, 8], [.win [0, 1, 2, 3], .win [0], .win [0], .win [0], .eff 0, .eff 1, .eff 2, .eff 3, .eff 4]), ([4, 6, 5, 7, 8], [0, 1, 2, 3, 4, 6, 5, 7, 8], [.win [0, 1, 2, 3], .win [0], .win [0], .win [0], .eff 0, .eff 2, .eff 1, .eff 3, .eff 4]), ([5, 4, 6, 7, 8], [0, 1, 2, 3, 5, 4, 6, 7, 8], [.win [0, 1, 2, 3], .win [0, 1], .win [0, 1], .win [0, 1], .eff 1, .eff 0, .eff 2, .eff 3, .eff 4]), ([5, 6, 4, 7, 8], [0, 1, 2, 3, 5, 6, 4, 7, 8], [.win [0, 1, 2, 3], .win [0, 1, 2], .win [0, 1, 2], .win [0, 1, 2], .eff 2, .eff 0, .eff 1, .eff 3, .eff 4]), ([5, 6, 7, 4, 8], [0, 1, 2, 3, 5, 6, 7, 4, 8], [.win [0, 1, 2], .win [0, 1, 2, 3], .win [0, 1, 2, 3], .win [0, 1, 2, 3], .eff 3, .eff 0, .eff 1, .eff 2, .eff 4]), ([6, 4, 5, 7, 8], [0, 1, 2, 3, 6, 4, 5, 7, 8], [.win [0, 1, 2, 3], .win [0, 1], .win [0, 1], .win [0, 1], .eff 1, .eff 2, .eff 0, .eff 3, .eff 4]), ([6, 5, 4, 7, 8], [0, 1, 2, 3, 6, 5, 4, 7, 8], [.win [0, 1, 2, 3], .win [0, 1, 2], .win [0, 1, 2], .win [0, 1, 2], .eff 2, .eff 1, .eff 0, .eff 3, .eff 4]), ([6, 5, 7, 4, 8], [0, 1, 2, 3, 6, 5, 7, 4, 8], [.win [0, 1, 2], .win [0, 1, 2, 3], .win [0, 1, 2, 3], .win [0, 1, 2, 3], .eff 3, .eff 1, .eff 0, .eff 2, .eff 4])] 5 rfl (by as_aux_lemma => kernel_rfl) ((.rs 3 (l.map encI) :: .i vars :: .any :: .any :: .any :: .p (H0.length + 1) 0 :: .p (H0.length + 2) 0 :: .any :: .any :: .any :: .any :: .any :: .any :: .any :: .any :: .any :: .any :: .any :: .any :: .any :: .any :: .any :: .any :: .any :: .any :: .any :: .any :: .any :: .any :: .any :: .any :: .any :: .any :: .any :: .any :: .any :: .any :: .any :: .any :: .any :: .any :: .any :: .any :: .any :: .any :: .any :: .any :: .any :: .any :: .any :: .any :: .any :: .any :: .any :: .any :: .any :: .any :: .any :: .any :: .any :: .any :: .any :: .any :: .any :: .any :: .any :: .any :: .any :: .any :: .any :: .any :: .any :: .any :: .any :: .any :: .any :: .any :: .any :: .any :: .any :: .any :: .any :: .any :: .any :: .any :: .any :: .any :: .any :: .any :: .any :: .any :: .any :: .any :: .any :: .any :: .any :: .any :: .any :: .any :: .any :: .any :: .any :: .any :: .any :: .any :: .any :: .any :: .any :: .any :: .any :: .any :: .any :: .any :: .any :: []))
      (H0 ++ [rW (List.replicate (l.length + 1) 0), .cells 74 effC, .cells 27 [.os H0.length 0 (l.length + 1) (l.length + 1)]]) (fun tm H wk h => by simp only [AEx.thn] at h ⊢; exact awp_wk wk h) ?_ (fun Kp W hW => ?_)
    · simp only [AEx.thn]
      (have w1 := h4; refine wkO ?_; clear w1; (repeat' first | exact True.intro | refine Lf.mk ?_ ?_); all_goals intro hP)
      refine awp_loop_ind (σ := Nat) (fun k => l.length + 1 - k) (fun k => k ≤ l.length + 1)
        (fun k => (.rs 3 (l.map encI) :: .i vars :: .any :: .any :: .any :: .p (H0.length + 1) 0 :: .p (H0.length + 2) 0 :: .any :: .any :: .any :: .any :: .any :: .any :: .any :: .any :: .any :: .any :: .any :: .any :: .any :: .any :: .i (l.length + 1 : Nat) :: .i k :: .any :: .any :: .any :: .any :: .any :: .any :: .any :: .any :: .any :: .any :: .any :: .any :: .any :: .any :: .any :: .any :: .any :: .any :: .any :: .any :: .any :: .any :: .any :: .any :: .any :: .any :: .any :: .any :: .any :: .any :: .any :: .any :: .any :: .any :: .any :: .any :: .any :: .any :: .any :: .any :: .any :: .any :: .any :: .any :: .any :: .any :: .any :: .any :: .any :: .any :: .any :: .any :: .any :: .any :: .any :: .any :: .any :: .any :: .any :: .any :: .any :: .any :: .any :: .any :: .any :: .any :: .any :: .any :: .any :: .any :: .any :: .any :: .any :: .any :: .any :: .any :: .any :: .any :: .any :: .any :: .any :: .any :: .any :: .any :: .any :: .any :: .any :: .any :: .any :: .any :: .any :: []))
        (fun k => H0 ++ [rW ((List.replicate (l.length + 1) (-1)).take k ++ (List.replicate (l.length + 1) 0).drop k), .cells 74 effC, .cells 27 [.os H0.length 0 (l.length + 1) (l.length + 1)]]) 0 (Nat.zero_le _) ?_ ?_
      · refine Wk.fgtE ?_ (by (refine fgX ?_; try exact True.intro))
        simp [rW, List.replicate_succ]
      · rintro k k1
        by_cases hk : k = l.length + 1
        · subst hk
          have etake : (List.replicate (l.length + 1) (-1 : Int)).take (l.length + 1) ++ (List.replicate (l.length + 1) (0 : Int)).drop (l.length + 1) = (-1) :: List.replicate l.length (-1) := by simp [List.replicate_succ]
          rw [etake]
          (have w1 := etake; refine wkO ?_; clear w1; (repeat' first | exact True.intro | refine Lf.mk ?_ ?_); all_goals intro hP)
          refine awp_loop_ind (σ := Nat × List Int) (fun s => l.length - s.1)
            (fun s => s.1 ≤ l.length ∧ s.2.length = l.length + 1 ∧ HsOk s.2 ∧ hLoop l.length vars l 0 (0 :: List.replicate l.length (-1)) = hLoop l.length vars (l.drop s.1) s.1 s.2)
            (fun s => (.rs 3 (l.map encI) :: .i vars :: .any :: .any :: .any :: .p (H0.length + 1) 0 :: .p (H0.length + 2) 0 :: .any :: (.fn (.func 45) [] [.p (H0.length + 2) 0]) :: .any :: .any :: .any :: .any :: .any :: .any :: .any :: .any :: .any :: .any :: .any :: .any :: .any :: .any :: .any :: .any :: .any :: .any :: .any :: .any :: .any :: .any :: .any :: .rs 3 (l.map encI) :: .i l.length :: .i s.1 :: .any :: .any :: .any :: .any :: .any :: .any :: .any :: .any :: .any :: .any :: .any :: .any :: .any :: .any :: .any :: .any :: .any :: .any :: .any :: .any :: .any :: .any :: .any :: .any :: .any :: .any :: .any :: .any :: .any :: .any :: .any :: .any :: .any :: .any :: .any :: .any :: .any :: .any :: .any :: .any :: .any :: .any :: .any :: .any :: .any :: .any :: .any :: .any :: .any :: .any :: .any :: .any :: .any :: .any :: .any :: .any :: .any :: .any :: .any :: .any :: .any :: .any :: .any :: .any :: .any :: .any :: .any :: .any :: .any :: .any :: .any :: .any :: .any :: .any :: .any :: .any :: .any :: .any :: .any :: []))
            (fun s => H0 ++ [rW s.2, .cells 74 effC, .cells 27 [.os H0.length 0 (l.length + 1) (l.length + 1)]]) (0, 0 :: List.replicate l.length (-1)) ⟨Nat.zero_le _, by simp, HsOk.start _, by simp⟩ ?_ ?_
          · refine Wk.fgtE ?_ (by (refine fgX ?_; try exact True.intro))
            simp [rW, List.take_of_length_le, List.replicate_succ]
          · rintro ⟨i, hs⟩ ⟨h1, h2, h3, h5⟩
            simp only at h1 h2 h3 h5 ⊢
            obtain ⟨y, hy⟩ := get_some (hs := hs) (i := i) (by omega)
            have yb := h3.get hy
            have hy' : (hs.map fun v => [AV.i v])[i]? = some [AV.i y] := by rw [List.getElem?_map, hy]; rfl
            have hil : (i : Int) < (l.length + 1 : Nat) := by omega
            cases hr : l.drop i with
            | nil =>
              have hlt := drop_nil hr
              obtain rfl : i = l.length := by have := List.drop_eq_nil_iff.1 hr; omega
              rw [hr, hLoop_nil hy] at h5
              have hverd : verH l vars = decide (y = 0) := by rw [← h5]; exact verH_eq h4'
              rw [hverd]
              repeat' (first | refine awp_seq ?_ | refine awp_block ?_ | refine awp_scope ?_ | ((first | refine awp_region_k fun Kn Kp hn hp => ?_ | show AWP _ _ (Code.region 14 _ true) _ _ _; refine awp_drawn_k (id := 14) [11] [] [.win [0], .win [0], .win [0], .win [0], .win [0], .win [0], .win [0], .win [0], .win [0], .win [0], .win [0], .eff 0, .win [1], .win [1], .win [1], .win [1], .win [1], .win [1], .win [1], .win [1], .win [1], .win [1], .win [1], .win [1], .win [1], .win [1]] 1 rfl (by as_aux_lemma => kernel_rfl) fun Kn Kp hn hp => ?_ | show AWP _ _ (Code.region 16 _ true) _ _ _; refine awp_drawn_k (id := 16) [] [] [.win [0], .win [0], .win [0], .win [0], .win [0], .win [0], .win [0], .win [0], .win [0], .win [0], .win [0], .win [0], .win [0], .win [0], .win [0], .win [0], .win [0]] 0 rfl (by as_aux_lemma => kernel_rfl) fun Kn Kp hn hp => ?_ | refine oge_intro (by assumption) ?_) <;> (simp only [go_sem, Nat.reduceAdd, Nat.reduceSub, Nat.reduceMul, Nat.reduceLeDiff, Nat.reduceLT, Nat.reduceEqDiff, Int.reduceToNat, Int.reduceAdd, Int.reduceMul, Int.reduceSub, Int.reduceLT, Int.reduceLE, Int.reduceEq, Int.reduceNeg, Int.reduceBEq, Int.reduceBNe, ↓reduceIte, reduceCtorEq, effC_len, hlt, List.length_map, h2, hil, hy', Option.map_some, row_set, Int.toNat_natCast] <;> try simp (disch := omega) only [wrap_of])) | (refine hn _ _ ?_; clear hn hp Kn Kp) | (refine hp _ _ _ ?_; clear hn hp Kn Kp) | (simp (disch := omega) only [go_sem, Nat.reduceAdd, Nat.reduceSub, Nat.reduceMul, Nat.reduceLeDiff, Nat.reduceLT, Nat.reduceEqDiff, Int.reduceToNat, Int.reduceAdd, Int.reduceMul, Int.reduceSub, Int.reduceLT, Int.reduceLE, Int.reduceEq, Int.reduceNeg, Int.reduceBEq, Int.reduceBNe, ↓reduceIte, reduceCtorEq, effC_len, hlt, List.length_map, h2, hil, hy', Option.map_some, row_set, Int.toNat_natCast, if_pos, if_neg, decide_pos', decide_neg', beq_pos', beq_neg', bne_pos', bne_neg', getE, wrap_of]) | (refine awp_cond_t rfl (by first | with_reducible rfl | (simp only [Bool.and_eq_true, Bool.or_eq_true, Bool.and_eq_false_iff, Bool.or_eq_false_iff, decide_eq_true_eq, decide_eq_false_iff_not, beq_iff_eq, bne_iff_ne, bne_eq_false_iff_eq, beq_eq_false_iff_ne, ne_eq, Bool.not_eq_true', Bool.not_eq_false', not_true_eq_false, not_false_eq_true]; omega)) ?_) | (refine awp_cond_f rfl (by first | with_reducible rfl | (simp only [Bool.and_eq_true, Bool.or_eq_true, Bool.and_eq_false_iff, Bool.or_eq_false_iff, decide_eq_true_eq, decide_eq_false_iff_not, beq_iff_eq, bne_iff_ne, bne_eq_false_iff_eq, beq_eq_false_iff_ne, ne_eq, Bool.not_eq_true', Bool.not_eq_false', not_true_eq_false, not_false_eq_true]; omega)) ?_) | (refine awp_cond rfl (fun hb => ?_) (fun hb => ?_) <;> (try simp only [decide_eq_true_eq, decide_eq_false_iff_not, Bool.not_eq_true', Bool.not_eq_false', Bool.true_eq_false, Bool.false_eq_true, beq_iff_eq, bne_iff_ne, Bool.or_eq_true, Bool.and_eq_true, Bool.or_eq_false_iff, Bool.and_eq_false_iff, bne_eq_false_iff_eq, beq_eq_false_iff_ne, gt_iff_lt, ge_iff_le, Int.reduceEq, Int.reduceNe, Int.reduceLT, Int.reduceLE, ne_eq, not_true_eq_false, not_false_eq_true] at hb)) | ((first | refine awg_split (fun hb => ?_) (fun hb => ?_) | refine awsg_split (fun hb => ?_) (fun hb => ?_)) <;> have hb0 := hb <;> (try simp only [decide_eq_true_eq, decide_eq_false_iff_not, Bool.not_eq_true', Bool.not_eq_false', Bool.true_eq_false, Bool.false_eq_true, beq_iff_eq, bne_iff_ne, Bool.or_eq_true, Bool.and_eq_true, Bool.or_eq_false_iff, Bool.and_eq_false_iff, bne_eq_false_iff_eq, beq_eq_false_iff_ne, gt_iff_lt, ge_iff_le, Int.reduceEq, Int.reduceNe, Int.reduceLT, Int.reduceLE, ne_eq, not_true_eq_false, not_false_eq_true] at hb0) <;> (try simp only [beq_true, beq_false, Bool.not_eq_true', Bool.not_eq_false'] at hb) <;> (simp only [go_sem, Nat.reduceAdd, Nat.reduceSub, Nat.reduceMul, Nat.reduceLeDiff, Nat.reduceLT, Nat.reduceEqDiff, Int.reduceToNat, Int.reduceAdd, Int.reduceMul, Int.reduceSub, Int.reduceLT, Int.reduceLE, Int.reduceEq, Int.reduceNeg, Int.reduceBEq, Int.reduceBNe, ↓reduceIte, reduceCtorEq, effC_len, hlt, List.length_map, h2, hil, hy', Option.map_some, row_set, Int.toNat_natCast, hb, hb0] <;> try simp (disch := omega) only [wrap_of])) | (refine And.intro ?_ ?_) | refine awp_skip ?_ | refine awp_ret ?_ | refine awp_exit ?_ | refine awp_label ?_ | refine awloop_step ?_ | fail)
              (refine resX ?_; try exact True.intro)
            | cons x rest =>
              obtain ⟨hx, hlt, hd, hm⟩ := drop_cons hr
              rw [hr, hLoop_cons] at h5
              obtain ⟨op, nn, rel⟩ := x
              have hx' : (l.map encI)[i]? = some (cI ⟨op, nn, rel⟩) := by rw [List.getElem?_map, hx]; rfl
              have hverd := verH_eq (vars := vars) h4'
              rw [h5] at hverd
              rw [hverd]
              have hfit := fun H0 => cfits_run op nn rel i l.length vars (by omega) hv H0
              have hw1 : IntKind.i64.wrap ((i : Int) + 1) = ((i + 1 : Nat) : Int) := by rw [wrap_of (by omega) (by omega)]; omega
              cases hok : insOk ⟨op, nn, rel⟩ i l.length vars with
              | false =>
                rw [hStep_bad hy (.inr (.inl hok))]
                simp only [hok] at hfit
                repeat' (first | refine awp_seq ?_ | refine awp_block ?_ | refine awp_scope ?_ | ((first | refine awp_region_k fun Kn Kp hn hp => ?_ | show AWP _ _ (Code.region 14 _ true) _ _ _; refine awp_drawn_k (id := 14) [11] [] [.win [0], .win [0], .win [0], .win [0], .win [0], .win [0], .win [0], .win [0], .win [0], .win [0], .win [0], .eff 0, .win [1], .win [1], .win [1], .win [1], .win [1], .win [1], .win [1], .win [1], .win [1], .win [1], .win [1], .win [1], .win [1], .win [1]] 1 rfl (by as_aux_lemma => kernel_rfl) fun Kn Kp hn hp => ?_ | show AWP _ _ (Code.region 16 _ true) _ _ _; refine awp_drawn_k (id := 16) [] [] [.win [0], .win [0], .win [0], .win [0], .win [0], .win [0], .win [0], .win [0], .win [0], .win [0], .win [0], .win [0], .win [0], .win [0], .win [0], .win [0], .win [0]] 0 rfl (by as_aux_lemma => kernel_rfl) fun Kn Kp hn hp => ?_ | refine oge_intro (by assumption) ?_ | (show AWE _ _ _ _ _ _ _ _ _; first | refine awe_intro (hfit _) ?_) | (show AWSF _ _ _ _ _ _ _ _ _ _ _; first | refine awsf_intro (hfit _) (fun hrun => ?_)) | (show OGE _ _ _ _ _ _ _; first | refine oge_intro (hfit _) ?_) | (show AWSE _ _ _ _ _ _ _ _ _ _ _; first | refine awse_intro (hfit _) (fun hrun => ?_)) | (show PGE _ _ _ _ _; first | refine pge_intro (hfit _) (fun tm' => ?_))) <;> (simp only [go_sem, Nat.reduceAdd, Nat.reduceSub, Nat.reduceMul, Nat.reduceLeDiff, Nat.reduceLT, Nat.reduceEqDiff, Int.reduceToNat, Int.reduceAdd, Int.reduceMul, Int.reduceSub, Int.reduceLT, Int.reduceLE, Int.reduceEq, Int.reduceNeg, Int.reduceBEq, Int.reduceBNe, ↓reduceIte, reduceCtorEq, effC_len, hlt, List.length_map, h2, hil, hx', hy', Option.map_some, row_set, Int.toNat_natCast] <;> try simp (disch := omega) only [wrap_of])) | (refine hn _ _ ?_; clear hn hp Kn Kp) | (refine hp _ _ _ ?_; clear hn hp Kn Kp) | (simp (disch := omega) only [go_sem, Nat.reduceAdd, Nat.reduceSub, Nat.reduceMul, Nat.reduceLeDiff, Nat.reduceLT, Nat.reduceEqDiff, Int.reduceToNat, Int.reduceAdd, Int.reduceMul, Int.reduceSub, Int.reduceLT, Int.reduceLE, Int.reduceEq, Int.reduceNeg, Int.reduceBEq, Int.reduceBNe, ↓reduceIte, reduceCtorEq, effC_len, hlt, List.length_map, h2, hil, hx', hy', Option.map_some, row_set, Int.toNat_natCast, if_pos, if_neg, decide_pos', decide_neg', beq_pos', beq_neg', bne_pos', bne_neg', getE, wrap_of]) | (refine awp_cond_t rfl (by first | with_reducible rfl | (simp only [Bool.and_eq_true, Bool.or_eq_true, Bool.and_eq_false_iff, Bool.or_eq_false_iff, decide_eq_true_eq, decide_eq_false_iff_not, beq_iff_eq, bne_iff_ne, bne_eq_false_iff_eq, beq_eq_false_iff_ne, ne_eq, Bool.not_eq_true', Bool.not_eq_false', not_true_eq_false, not_false_eq_true]; omega)) ?_) | (refine awp_cond_f rfl (by first | with_reducible rfl | (simp only [Bool.and_eq_true, Bool.or_eq_true, Bool.and_eq_false_iff, Bool.or_eq_false_iff, decide_eq_true_eq, decide_eq_false_iff_not, beq_iff_eq, bne_iff_ne, bne_eq_false_iff_eq, beq_eq_false_iff_ne, ne_eq, Bool.not_eq_true', Bool.not_eq_false', not_true_eq_false, not_false_eq_true]; omega)) ?_) | (refine awp_cond rfl (fun hb => ?_) (fun hb => ?_) <;> (try simp only [decide_eq_true_eq, decide_eq_false_iff_not, Bool.not_eq_true', Bool.not_eq_false', Bool.true_eq_false, Bool.false_eq_true, beq_iff_eq, bne_iff_ne, Bool.or_eq_true, Bool.and_eq_true, Bool.or_eq_false_iff, Bool.and_eq_false_iff, bne_eq_false_iff_eq, beq_eq_false_iff_ne, gt_iff_lt, ge_iff_le, Int.reduceEq, Int.reduceNe, Int.reduceLT, Int.reduceLE, ne_eq, not_true_eq_false, not_false_eq_true] at hb)) | ((first | refine awg_split (fun hb => ?_) (fun hb => ?_) | refine awsg_split (fun hb => ?_) (fun hb => ?_)) <;> have hb0 := hb <;> (try simp only [decide_eq_true_eq, decide_eq_false_iff_not, Bool.not_eq_true', Bool.not_eq_false', Bool.true_eq_false, Bool.false_eq_true, beq_iff_eq, bne_iff_ne, Bool.or_eq_true, Bool.and_eq_true, Bool.or_eq_false_iff, Bool.and_eq_false_iff, bne_eq_false_iff_eq, beq_eq_false_iff_ne, gt_iff_lt, ge_iff_le, Int.reduceEq, Int.reduceNe, Int.reduceLT, Int.reduceLE, ne_eq, not_true_eq_false, not_false_eq_true] at hb0) <;> (try simp only [beq_true, beq_false, Bool.not_eq_true', Bool.not_eq_false'] at hb) <;> (simp only [go_sem, Nat.reduceAdd, Nat.reduceSub, Nat.reduceMul, Nat.reduceLeDiff, Nat.reduceLT, Nat.reduceEqDiff, Int.reduceToNat, Int.reduceAdd, Int.reduceMul, Int.reduceSub, Int.reduceLT, Int.reduceLE, Int.reduceEq, Int.reduceNeg, Int.reduceBEq, Int.reduceBNe, ↓reduceIte, reduceCtorEq, effC_len, hlt, List.length_map, h2, hil, hx', hy', Option.map_some, row_set, Int.toNat_natCast, hb, hb0] <;> try simp (disch := omega) only [wrap_of])) | (refine And.intro ?_ ?_) | refine awp_skip ?_ | refine awp_ret ?_ | refine awp_exit ?_ | refine awp_label ?_ | refine awloop_step ?_ | fail)
                all_goals (refine resX ?_; try exact True.intro)
              | true =>
                simp only [hok] at hfit
                have hop := insOk_op hok
                simp only at hop
                have t1 := takes_nn op
                have t2 : takes op ≤ 2 := by unfold takes; repeat' split <;> omega
                have p1 := puts_nn op
                have p2 : puts op ≤ 1 := by unfold puts; split <;> omega
                obtain ⟨he1, he2⟩ := effC_get hop
                have hopl : op < 14 := by omega
                have hop0 : 0 ≤ op := by omega
                have wy1 : IntKind.i64.wrap (y - takes op) = y - takes op := wrap_of (by omega) (by omega)
                have wy2 : IntKind.i64.wrap (y - takes op + puts op) = y - takes op + puts op := wrap_of (by omega) (by omega)
                have hj := insOk_jump hok
                simp only at hj
                have hi1 : ((i + 1 : Nat) : Int) < (l.length + 1 : Nat) := by omega
                have hi2 : i + 1 < hs.length := by omega
                have h2' : ∀ a d, (hs.set a d).length = l.length + 1 := by intro a d; simp [h2]
                have hstep := hStep_ok (len := l.length) (vars := vars) (x := ⟨op, nn, rel⟩) hy hok (by omega) hi2
                simp only at hstep
                repeat' (first | refine awp_seq ?_ | refine awp_block ?_ | refine awp_scope ?_ | ((first | refine awp_region_k fun Kn Kp hn hp => ?_ | show AWP _ _ (Code.region 14 _ true) _ _ _; refine awp_drawn_k (id := 14) [11] [] [.win [0], .win [0], .win [0], .win [0], .win [0], .win [0], .win [0], .win [0], .win [0], .win [0], .win [0], .eff 0, .win [1], .win [1], .win [1], .win [1], .win [1], .win [1], .win [1], .win [1], .win [1], .win [1], .win [1], .win [1], .win [1], .win [1]] 1 rfl (by as_aux_lemma => kernel_rfl) fun Kn Kp hn hp => ?_ | show AWP _ _ (Code.region 16 _ true) _ _ _; refine awp_drawn_k (id := 16) [] [] [.win [0], .win [0], .win [0], .win [0], .win [0], .win [0], .win [0], .win [0], .win [0], .win [0], .win [0], .win [0], .win [0], .win [0], .win [0], .win [0], .win [0]] 0 rfl (by as_aux_lemma => kernel_rfl) fun Kn Kp hn hp => ?_ | refine oge_intro (by assumption) ?_ | (show AWE _ _ _ _ _ _ _ _ _; first | refine awe_intro (hfit _) ?_ | refine awe_intro (reach_runN _ (l.length + 1) h2 nn (by omega) _ 27 (H0.length + 2) H0.length (H0 ++ _) (by simp only [getOk, List.getElem?_cons_succ, List.getElem?_cons_zero]) (getO0 _ _ _) (by omega)) ?_ | refine awe_intro (reach_runN _ (l.length + 1) h2 (i + 1 : Nat) (by omega) _ 27 (H0.length + 2) H0.length (H0 ++ _) (by simp only [getOk, List.getElem?_cons_succ, List.getElem?_cons_zero]) (getO0 _ _ _) (by omega)) ?_ | refine awe_intro (reach_runN _ (l.length + 1) (h2' _ _) (i + 1 : Nat) (by omega) _ 27 (H0.length + 2) H0.length (H0 ++ _) (by simp only [getOk, List.getElem?_cons_succ, List.getElem?_cons_zero]) (getO0 _ _ _) (by omega)) ?_) | (show AWSF _ _ _ _ _ _ _ _ _ _ _; first | refine awsf_intro (hfit _) (fun hrun => ?_) | refine awsf_intro (reach_runN _ (l.length + 1) h2 nn (by omega) _ 27 (H0.length + 2) H0.length (H0 ++ _) (by simp only [getOk, List.getElem?_cons_succ, List.getElem?_cons_zero]) (getO0 _ _ _) (by omega)) (fun hrun => ?_) | refine awsf_intro (reach_runN _ (l.length + 1) h2 (i + 1 : Nat) (by omega) _ 27 (H0.length + 2) H0.length (H0 ++ _) (by simp only [getOk, List.getElem?_cons_succ, List.getElem?_cons_zero]) (getO0 _ _ _) (by omega)) (fun hrun => ?_) | refine awsf_intro (reach_runN _ (l.length + 1) (h2' _ _) (i + 1 : Nat) (by omega) _ 27 (H0.length + 2) H0.length (H0 ++ _) (by simp only [getOk, List.getElem?_cons_succ, List.getElem?_cons_zero]) (getO0 _ _ _) (by omega)) (fun hrun => ?_)) | (show OGE _ _ _ _ _ _ _; first | refine oge_intro (hfit _) ?_ | refine oge_intro (reach_runN _ (l.length + 1) h2 nn (by omega) _ 27 (H0.length + 2) H0.length (H0 ++ _) (by simp only [getOk, List.getElem?_cons_succ, List.getElem?_cons_zero]) (getO0 _ _ _) (by omega)) ?_ | refine oge_intro (reach_runN _ (l.length + 1) h2 (i + 1 : Nat) (by omega) _ 27 (H0.length + 2) H0.length (H0 ++ _) (by simp only [getOk, List.getElem?_cons_succ, List.getElem?_cons_zero]) (getO0 _ _ _) (by omega)) ?_ | refine oge_intro (reach_runN _ (l.length + 1) (h2' _ _) (i + 1 : Nat) (by omega) _ 27 (H0.length + 2) H0.length (H0 ++ _) (by simp only [getOk, List.getElem?_cons_succ, List.getElem?_cons_zero]) (getO0 _ _ _) (by omega)) ?_) | (show AWSE _ _ _ _ _ _ _ _ _ _ _; first | refine awse_intro (hfit _) (fun hrun => ?_) | refine awse_intro (reach_runN _ (l.length + 1) h2 nn (by omega) _ 27 (H0.length + 2) H0.length (H0 ++ _) (by simp only [getOk, List.getElem?_cons_succ, List.getElem?_cons_zero]) (getO0 _ _ _) (by omega)) (fun hrun => ?_) | refine awse_intro (reach_runN _ (l.length + 1) h2 (i + 1 : Nat) (by omega) _ 27 (H0.length + 2) H0.length (H0 ++ _) (by simp only [getOk, List.getElem?_cons_succ, List.getElem?_cons_zero]) (getO0 _ _ _) (by omega)) (fun hrun => ?_) | refine awse_intro (reach_runN _ (l.length + 1) (h2' _ _) (i + 1 : Nat) (by omega) _ 27 (H0.length + 2) H0.length (H0 ++ _) (by simp only [getOk, List.getElem?_cons_succ, List.getElem?_cons_zero]) (getO0 _ _ _) (by omega)) (fun hrun => ?_)) | (show PGE _ _ _ _ _; first | refine pge_intro (hfit _) (fun tm' => ?_) | refine pge_intro (reach_runN _ (l.length + 1) h2 nn (by omega) _ 27 (H0.length + 2) H0.length (H0 ++ _) (by simp only [getOk, List.getElem?_cons_succ, List.getElem?_cons_zero]) (getO0 _ _ _) (by omega)) (fun tm' => ?_) | refine pge_intro (reach_runN _ (l.length + 1) h2 (i + 1 : Nat) (by omega) _ 27 (H0.length + 2) H0.length (H0 ++ _) (by simp only [getOk, List.getElem?_cons_succ, List.getElem?_cons_zero]) (getO0 _ _ _) (by omega)) (fun tm' => ?_) | refine pge_intro (reach_runN _ (l.length + 1) (h2' _ _) (i + 1 : Nat) (by omega) _ 27 (H0.length + 2) H0.length (H0 ++ _) (by simp only [getOk, List.getElem?_cons_succ, List.getElem?_cons_zero]) (getO0 _ _ _) (by omega)) (fun tm' => ?_))) <;> (simp only [go_sem, Nat.reduceAdd, Nat.reduceSub, Nat.reduceMul, Nat.reduceLeDiff, Nat.reduceLT, Nat.reduceEqDiff, Int.reduceToNat, Int.reduceAdd, Int.reduceMul, Int.reduceSub, Int.reduceLT, Int.reduceLE, Int.reduceEq, Int.reduceNeg, Int.reduceBEq, Int.reduceBNe, ↓reduceIte, reduceCtorEq, effC_len, hlt, List.length_map, h2, hil, hx', hy', Option.map_some, row_set, Int.toNat_natCast, hop0, hopl, he1, he2, wy1, wy2, hw1, List.length_set] <;> try simp (disch := omega) only [wrap_of])) | (refine hn _ _ ?_; clear hn hp Kn Kp) | (refine hp _ _ _ ?_; clear hn hp Kn Kp) | (simp (disch := omega) only [go_sem, Nat.reduceAdd, Nat.reduceSub, Nat.reduceMul, Nat.reduceLeDiff, Nat.reduceLT, Nat.reduceEqDiff, Int.reduceToNat, Int.reduceAdd, Int.reduceMul, Int.reduceSub, Int.reduceLT, Int.reduceLE, Int.reduceEq, Int.reduceNeg, Int.reduceBEq, Int.reduceBNe, ↓reduceIte, reduceCtorEq, effC_len, hlt, List.length_map, h2, hil, hx', hy', Option.map_some, row_set, Int.toNat_natCast, hop0, hopl, he1, he2, wy1, wy2, hw1, List.length_set, if_pos, if_neg, decide_pos', decide_neg', beq_pos', beq_neg', bne_pos', bne_neg', getE, wrap_of]) | (refine awp_cond_t rfl (by first | with_reducible rfl | (simp only [Bool.and_eq_true, Bool.or_eq_true, Bool.and_eq_false_iff, Bool.or_eq_false_iff, decide_eq_true_eq, decide_eq_false_iff_not, beq_iff_eq, bne_iff_ne, bne_eq_false_iff_eq, beq_eq_false_iff_ne, ne_eq, Bool.not_eq_true', Bool.not_eq_false', not_true_eq_false, not_false_eq_true]; omega)) ?_) | (refine awp_cond_f rfl (by first | with_reducible rfl | (simp only [Bool.and_eq_true, Bool.or_eq_true, Bool.and_eq_false_iff, Bool.or_eq_false_iff, decide_eq_true_eq, decide_eq_false_iff_not, beq_iff_eq, bne_iff_ne, bne_eq_false_iff_eq, beq_eq_false_iff_ne, ne_eq, Bool.not_eq_true', Bool.not_eq_false', not_true_eq_false, not_false_eq_true]; omega)) ?_) | (refine awp_cond rfl (fun hb => ?_) (fun hb => ?_) <;> (try simp only [decide_eq_true_eq, decide_eq_false_iff_not, Bool.not_eq_true', Bool.not_eq_false', Bool.true_eq_false, Bool.false_eq_true, beq_iff_eq, bne_iff_ne, Bool.or_eq_true, Bool.and_eq_true, Bool.or_eq_false_iff, Bool.and_eq_false_iff, bne_eq_false_iff_eq, beq_eq_false_iff_ne, gt_iff_lt, ge_iff_le, Int.reduceEq, Int.reduceNe, Int.reduceLT, Int.reduceLE, ne_eq, not_true_eq_false, not_false_eq_true] at hb)) | ((first | refine awg_split (fun hb => ?_) (fun hb => ?_) | refine awsg_split (fun hb => ?_) (fun hb => ?_)) <;> have hb0 := hb <;> (try simp only [decide_eq_true_eq, decide_eq_false_iff_not, Bool.not_eq_true', Bool.not_eq_false', Bool.true_eq_false, Bool.false_eq_true, beq_iff_eq, bne_iff_ne, Bool.or_eq_true, Bool.and_eq_true, Bool.or_eq_false_iff, Bool.and_eq_false_iff, bne_eq_false_iff_eq, beq_eq_false_iff_ne, gt_iff_lt, ge_iff_le, Int.reduceEq, Int.reduceNe, Int.reduceLT, Int.reduceLE, ne_eq, not_true_eq_false, not_false_eq_true] at hb0) <;> (try simp only [beq_true, beq_false, Bool.not_eq_true', Bool.not_eq_false'] at hb) <;> (simp only [go_sem, Nat.reduceAdd, Nat.reduceSub, Nat.reduceMul, Nat.reduceLeDiff, Nat.reduceLT, Nat.reduceEqDiff, Int.reduceToNat, Int.reduceAdd, Int.reduceMul, Int.reduceSub, Int.reduceLT, Int.reduceLE, Int.reduceEq, Int.reduceNeg, Int.reduceBEq, Int.reduceBNe, ↓reduceIte, reduceCtorEq, effC_len, hlt, List.length_map, h2, hil, hx', hy', Option.map_some, row_set, Int.toNat_natCast, hop0, hopl, he1, he2, wy1, wy2, hw1, List.length_set, hb, hb0] <;> try simp (disch := omega) only [wrap_of])) | (refine And.intro ?_ ?_) | refine awp_skip ?_ | refine awp_ret ?_ | refine awp_exit ?_ | refine awp_label ?_ | refine awloop_step ?_ | fail)
                all_goals first
                  | ((refine resX ?_; try exact True.intro); rw [hstep]; simp (disch := omega) only [if_pos, if_neg])
                  | (refine ⟨(i + 1, (hs.set nn.toNat (y - takes op + puts op)).set (i + 1) (y - takes op + puts op)), by simp only; omega, ⟨by simp only; omega, by simp only [List.length_set]; exact h2, (h3.set _ (by omega)).set _ (by omega), by simp only; rw [h5, hstep, ← hd]; simp (disch := omega) only [if_pos, if_neg]⟩, ?_⟩; refine Wk.keepE 3 1 rfl (by simp) (by intro o ho; simp only [List.mem_cons, List.not_mem_nil, or_false] at ho; rcases ho with rfl | rfl | rfl <;> (first | exact row_under | exact effC_under | exact hdr_under)) ?_; simp only [List.map_cons, List.map_nil, AV.low, Fgt, Nat.lt_add_one, if_true, true_or, or_true, and_true, true_and, Nat.add_lt_add_iff_left, Nat.reduceLT])
                  | (refine ⟨(i + 1, hs.set nn.toNat (y - takes op + puts op)), by simp only; omega, ⟨by simp only; omega, by simp only [List.length_set]; exact h2, h3.set _ (by omega), by simp only; rw [h5, hstep, ← hd]; simp (disch := omega) only [if_pos, if_neg]⟩, ?_⟩; refine Wk.keepE 3 1 rfl (by simp) (by intro o ho; simp only [List.mem_cons, List.not_mem_nil, or_false] at ho; rcases ho with rfl | rfl | rfl <;> (first | exact row_under | exact effC_under | exact hdr_under)) ?_; simp only [List.map_cons, List.map_nil, AV.low, Fgt, Nat.lt_add_one, if_true, true_or, or_true, and_true, true_and, Nat.add_lt_add_iff_left, Nat.reduceLT])
                  | (refine ⟨(i + 1, hs.set (i + 1) (y - takes op + puts op)), by simp only; omega, ⟨by simp only; omega, by simp only [List.length_set]; exact h2, h3.set _ (by omega), by simp only; rw [h5, hstep, ← hd]; simp (disch := omega) only [if_pos, if_neg]⟩, ?_⟩; refine Wk.keepE 3 1 rfl (by simp) (by intro o ho; simp only [List.mem_cons, List.not_mem_nil, or_false] at ho; rcases ho with rfl | rfl | rfl <;> (first | exact row_under | exact effC_under | exact hdr_under)) ?_; simp only [List.map_cons, List.map_nil, AV.low, Fgt, Nat.lt_add_one, if_true, true_or, or_true, and_true, true_and, Nat.add_lt_add_iff_left, Nat.reduceLT])
        · have hki : (k : Int) < (l.length + 1 : Nat) := by omega
          have hw : IntKind.i64.wrap ((k : Int) + 1) = ((k + 1 : Nat) : Int) := by rw [wrap_of (by omega) (by omega)]; omega
          have hlen : ((List.replicate (l.length + 1) (-1 : Int)).take k ++ (List.replicate (l.length + 1) (0 : Int)).drop k).length = l.length + 1 := by simp; omega
          have hfill := fill_step (A := List.replicate (l.length + 1) (-1 : Int)) (B := List.replicate (l.length + 1) (0 : Int)) (by simp) (k := k) (x := -1) (by rw [List.getElem?_replicate, if_pos (by omega)])
          generalize hg : (List.replicate (l.length + 1) (-1 : Int)).take k ++ (List.replicate (l.length + 1) (0 : Int)).drop k = row at *
          obtain ⟨z, hz⟩ := get_some (hs := row) (i := k) (by omega)
          have hz' : (row.map fun v => [AV.i v])[k]? = some [AV.i z] := by rw [List.getElem?_map, hz]; rfl
          (have w1 := hw; have w2 := hlen; have w3 := hz'; have w4 := @row_set; refine wkO ?_; clear w1 w2 w3 w4; (repeat' first | exact True.intro | refine Lf.mk ?_ ?_); all_goals intro hP)
          refine ⟨k + 1, by omega, by omega, ?_⟩
          simp only [List.replicate_succ] at hfill
          refine Wk.keepE 3 1 (by rw [← hfill]; simp only [rW, List.map_set]; rfl) (by simp) (by intro o ho; simp only [List.mem_cons, List.not_mem_nil, or_false] at ho; rcases ho with rfl | rfl | rfl <;> (first | exact row_under | exact effC_under | exact hdr_under)) ?_
          simp only [List.map_cons, List.map_nil, AV.low, Fgt, Nat.lt_add_one, if_true, true_or, or_true, and_true, true_and, Nat.add_lt_add_iff_left, Nat.reduceLT]
    · simp only [List.forall_mem_cons, List.not_mem_nil, false_implies, implies_true, and_true, go_sem, Nat.reduceAdd, Nat.reduceSub, Nat.reduceMul, Nat.reduceLeDiff, Nat.reduceLT, Nat.reduceEqDiff, Int.reduceToNat, Int.reduceAdd, Int.reduceMul, Int.reduceSub, Int.reduceLT, Int.reduceLE, Int.reduceEq, Int.reduceNeg, Int.reduceBEq, Int.reduceBNe, ↓reduceIte, reduceCtorEq, pick, List.length_map, w1, hk1, hk2, Int.le_refl, List.length_replicate]
      repeat' (first | refine awp_seq ?_ | refine awp_block ?_ | refine awp_scope ?_ | ((first | refine awp_region_k fun Kn Kp hn hp => ?_ | show AWP _ _ (Code.region 14 _ true) _ _ _; refine awp_drawn_k (id := 14) [11] [] [.win [0], .win [0], .win [0], .win [0], .win [0], .win [0], .win [0], .win [0], .win [0], .win [0], .win [0], .eff 0, .win [1], .win [1], .win [1], .win [1], .win [1], .win [1], .win [1], .win [1], .win [1], .win [1], .win [1], .win [1], .win [1], .win [1]] 1 rfl (by as_aux_lemma => kernel_rfl) fun Kn Kp hn hp => ?_ | show AWP _ _ (Code.region 16 _ true) _ _ _; refine awp_drawn_k (id := 16) [] [] [.win [0], .win [0], .win [0], .win [0], .win [0], .win [0], .win [0], .win [0], .win [0], .win [0], .win [0], .win [0], .win [0], .win [0], .win [0], .win [0], .win [0]] 0 rfl (by as_aux_lemma => kernel_rfl) fun Kn Kp hn hp => ?_ | refine oge_intro (by assumption) ?_ | (show AWE _ _ _ _ _ _ _ _ _; first | refine awe_intro (heff _) ?_) | (show AWSF _ _ _ _ _ _ _ _ _ _ _; first | refine awsf_intro (heff _) (fun hrun => ?_)) | (show OGE _ _ _ _ _ _ _; first | refine oge_intro (heff _) ?_) | (show AWSE _ _ _ _ _ _ _ _ _ _ _; first | refine awse_intro (heff _) (fun hrun => ?_)) | (show PGE _ _ _ _ _; first | refine pge_intro (heff _) (fun tm' => ?_))) <;> (simp only [go_sem, Nat.reduceAdd, Nat.reduceSub, Nat.reduceMul, Nat.reduceLeDiff, Nat.reduceLT, Nat.reduceEqDiff, Int.reduceToNat, Int.reduceAdd, Int.reduceMul, Int.reduceSub, Int.reduceLT, Int.reduceLE, Int.reduceEq, Int.reduceNeg, Int.reduceBEq, Int.reduceBNe, ↓reduceIte, reduceCtorEq, List.length_map, w1, hk1, hk2, Int.le_refl, and_self, List.length_replicate] <;> try simp (disch := omega) only [wrap_of])) | (refine hn _ _ ?_; clear hn hp Kn Kp) | (refine hp _ _ _ ?_; clear hn hp Kn Kp) | (refine awp_cond rfl (fun hb => ?_) (fun hb => ?_) <;> (try simp only [decide_eq_true_eq, decide_eq_false_iff_not, Bool.not_eq_true', Bool.not_eq_false', Bool.true_eq_false, Bool.false_eq_true, beq_iff_eq, bne_iff_ne, bne_eq_false_iff_eq, beq_eq_false_iff_ne, gt_iff_lt, ge_iff_le, Int.reduceEq, Int.reduceNe, Int.reduceLT, Int.reduceLE, ne_eq, not_true_eq_false, not_false_eq_true] at hb)) | ((first | refine awg_split (fun hb => ?_) (fun hb => ?_) | refine awsg_split (fun hb => ?_) (fun hb => ?_)) <;> have hb0 := hb <;> (try simp only [decide_eq_true_eq, decide_eq_false_iff_not, Bool.not_eq_true', Bool.not_eq_false', Bool.true_eq_false, Bool.false_eq_true, beq_iff_eq, bne_iff_ne, bne_eq_false_iff_eq, beq_eq_false_iff_ne, gt_iff_lt, ge_iff_le, Int.reduceEq, Int.reduceNe, Int.reduceLT, Int.reduceLE, ne_eq, not_true_eq_false, not_false_eq_true] at hb0) <;> (try simp only [beq_true, beq_false, Bool.not_eq_true', Bool.not_eq_false'] at hb) <;> (simp only [go_sem, Nat.reduceAdd, Nat.reduceSub, Nat.reduceMul, Nat.reduceLeDiff, Nat.reduceLT, Nat.reduceEqDiff, Int.reduceToNat, Int.reduceAdd, Int.reduceMul, Int.reduceSub, Int.reduceLT, Int.reduceLE, Int.reduceEq, Int.reduceNeg, Int.reduceBEq, Int.reduceBNe, ↓reduceIte, reduceCtorEq, List.length_map, w1, hk1, hk2, Int.le_refl, and_self, List.length_replicate, hb, hb0] <;> try simp (disch := omega) only [wrap_of])) | (refine And.intro ?_ ?_) | refine awp_skip ?_ | refine awp_ret ?_ | refine awp_exit ?_ | refine awp_label ?_ | refine awloop_step ?_ | (simp only [go_sem, Nat.reduceAdd, Nat.reduceSub, Nat.reduceMul, Nat.reduceLeDiff, Nat.reduceLT, Nat.reduceEqDiff, Int.reduceToNat, Int.reduceAdd, Int.reduceMul, Int.reduceSub, Int.reduceLT, Int.reduceLE, Int.reduceEq, Int.reduceNeg, Int.reduceBEq, Int.reduceBNe, ↓reduceIte, reduceCtorEq, List.length_map, w1, hk1, hk2, Int.le_refl, and_self, List.length_replicate]) | fail)
      all_goals (first | ((refine hW _ _ (Wk.perm0 [0, 1, 2] (by decide) ?_ ?_)) <;> (simp only [PermL, FgtR, AObj.ren, AV.ren, AV.under, AObj.under, AL.perm_0, AL.perm_k, List.map_cons, List.map_nil, List.map_map, List.map_replicate, List.replicate_succ, List.getD_cons_zero, List.getD_cons_succ, List.getElem?_cons_zero, List.getElem?_cons_succ, List.length_cons, List.length_nil, Nat.add_zero, Nat.zero_add, Nat.reduceAdd, Nat.add_lt_add_iff_left, Nat.reduceLT, Nat.lt_add_right_iff_pos, List.forall_mem_cons, List.mem_cons, List.not_mem_nil, forall_eq_or_imp, forall_eq, false_implies, implies_true, reduceCtorEq, false_or, true_or, or_true, and_true, true_and, and_self, List.forall_mem_map, List.mem_map, forall_exists_index, and_imp, forall_apply_eq_imp_iff₂, Function.comp_def, List.mem_replicate, ne_eq, effC, effP]) <;> (first | (intro a _ ha c hc; subst ha; simp only [List.mem_singleton] at hc; subst hc; simp only [AV.under]))) | ((refine hW _ _ (Wk.perm0 [0, 2, 1] (by decide) ?_ ?_)) <;> (simp only [PermL, FgtR, AObj.ren, AV.ren, AV.under, AObj.under, AL.perm_0, AL.perm_k, List.map_cons, List.map_nil, List.map_map, List.map_replicate, List.replicate_succ, List.getD_cons_zero, List.getD_cons_succ, List.getElem?_cons_zero, List.getElem?_cons_succ, List.length_cons, List.length_nil, Nat.add_zero, Nat.zero_add, Nat.reduceAdd, Nat.add_lt_add_iff_left, Nat.reduceLT, Nat.lt_add_right_iff_pos, List.forall_mem_cons, List.mem_cons, List.not_mem_nil, forall_eq_or_imp, forall_eq, false_implies, implies_true, reduceCtorEq, false_or, true_or, or_true, and_true, true_and, and_self, List.forall_mem_map, List.mem_map, forall_exists_index, and_imp, forall_apply_eq_imp_iff₂, Function.comp_def, List.mem_replicate, ne_eq, effC, effP]) <;> (first | (intro a _ ha c hc; subst ha; simp only [List.mem_singleton] at hc; subst hc; simp only [AV.under]))) | ((refine hW _ _ (Wk.perm0 [1, 0, 2] (by decide) ?_ ?_)) <;> (simp only [PermL, FgtR, AObj.ren, AV.ren, AV.under, AObj.under, AL.perm_0, AL.perm_k, List.map_cons, List.map_nil, List.map_map, List.map_replicate, List.replicate_succ, List.getD_cons_zero, List.getD_cons_succ, List.getElem?_cons_zero, List.getElem?_cons_succ, List.length_cons, List.length_nil, Nat.add_zero, Nat.zero_add, Nat.reduceAdd, Nat.add_lt_add_iff_left, Nat.reduceLT, Nat.lt_add_right_iff_pos, List.forall_mem_cons, List.mem_cons, List.not_mem_nil, forall_eq_or_imp, forall_eq, false_implies, implies_true, reduceCtorEq, false_or, true_or, or_true, and_true, true_and, and_self, List.forall_mem_map, List.mem_map, forall_exists_index, and_imp, forall_apply_eq_imp_iff₂, Function.comp_def, List.mem_replicate, ne_eq, effC, effP]) <;> (first | (intro a _ ha c hc; subst ha; simp only [List.mem_singleton] at hc; subst hc; simp only [AV.under]))) | ((refine hW _ _ (Wk.perm0 [1, 2, 0] (by decide) ?_ ?_)) <;> (simp only [PermL, FgtR, AObj.ren, AV.ren, AV.under, AObj.under, AL.perm_0, AL.perm_k, List.map_cons, List.map_nil, List.map_map, List.map_replicate, List.replicate_succ, List.getD_cons_zero, List.getD_cons_succ, List.getElem?_cons_zero, List.getElem?_cons_succ, List.length_cons, List.length_nil, Nat.add_zero, Nat.zero_add, Nat.reduceAdd, Nat.add_lt_add_iff_left, Nat.reduceLT, Nat.lt_add_right_iff_pos, List.forall_mem_cons, List.mem_cons, List.not_mem_nil, forall_eq_or_imp, forall_eq, false_implies, implies_true, reduceCtorEq, false_or, true_or, or_true, and_true, true_and, and_self, List.forall_mem_map, List.mem_map, forall_exists_index, and_imp, forall_apply_eq_imp_iff₂, Function.comp_def, List.mem_replicate, ne_eq, effC, effP]) <;> (first | (intro a _ ha c hc; subst ha; simp only [List.mem_singleton] at hc; subst hc; simp only [AV.under]))) | ((refine hW _ _ (Wk.perm0 [2, 0, 1] (by decide) ?_ ?_)) <;> (simp only [PermL, FgtR, AObj.ren, AV.ren, AV.under, AObj.under, AL.perm_0, AL.perm_k, List.map_cons, List.map_nil, List.map_map, List.map_replicate, List.replicate_succ, List.getD_cons_zero, List.getD_cons_succ, List.getElem?_cons_zero, List.getElem?_cons_succ, List.length_cons, List.length_nil, Nat.add_zero, Nat.zero_add, Nat.reduceAdd, Nat.add_lt_add_iff_left, Nat.reduceLT, Nat.lt_add_right_iff_pos, List.forall_mem_cons, List.mem_cons, List.not_mem_nil, forall_eq_or_imp, forall_eq, false_implies, implies_true, reduceCtorEq, false_or, true_or, or_true, and_true, true_and, and_self, List.forall_mem_map, List.mem_map, forall_exists_index, and_imp, forall_apply_eq_imp_iff₂, Function.comp_def, List.mem_replicate, ne_eq, effC, effP]) <;> (first | (intro a _ ha c hc; subst ha; simp only [List.mem_singleton] at hc; subst hc; simp only [AV.under]))) | ((refine hW _ _ (Wk.perm0 [2, 1, 0] (by decide) ?_ ?_)) <;> (simp only [PermL, FgtR, AObj.ren, AV.ren, AV.under, AObj.under, AL.perm_0, AL.perm_k, List.map_cons, List.map_nil, List.map_map, List.map_replicate, List.replicate_succ, List.getD_cons_zero, List.getD_cons_succ, List.getElem?_cons_zero, List.getElem?_cons_succ, List.length_cons, List.length_nil, Nat.add_zero, Nat.zero_add, Nat.reduceAdd, Nat.add_lt_add_iff_left, Nat.reduceLT, Nat.lt_add_right_iff_pos, List.forall_mem_cons, List.mem_cons, List.not_mem_nil, forall_eq_or_imp, forall_eq, false_implies, implies_true, reduceCtorEq, false_or, true_or, or_true, and_true, true_and, and_self, List.forall_mem_map, List.mem_map, forall_exists_index, and_imp, forall_apply_eq_imp_iff₂, Function.comp_def, List.mem_replicate, ne_eq, effC, effP]) <;> (first | (intro a _ ha c hc; subst ha; simp only [List.mem_singleton] at hc; subst hc; simp only [AV.under]))))
end Go.Proofs.YtimmncjdknlegaaDoor.Y

set_option maxHeartbeats 8000000
set_option maxRecDepth 20000
set_option linter.unusedVariables false
set_option linter.unusedSimpArgs false
set_option linter.unusedSectionVars false
namespace Go.Proofs.YtimmncjdknlegaaDoor.Y
open Go.Proofs.YtimmncjdknlegaaDoor.AL Go.Proofs Go
attribute [local irreducible] AWP AWL AWG AWR AWE AWX AWO AWSeq AWSG AWSR AWSO AWSE AWSF GoodP OGW OGR OGE OGX PGW PGR PGE Wk AWLoop AWPD AWLD

theorem RValue_run (n : Int) (H0 : List AObj) : ARun Tryd.prog 25 [.i n] H0 (.ret (.b (decide (-1000000000000 ≤ n) && decide (n ≤ 1000000000000))) H0) := by
  by_cases h1 : -1000000000000 ≤ n
  · (refine ARun.intro Tryd.func25 rfl Tryd.call25 Tryd.ntmps25 Tryd.results25 ?_; simp only [List.length_cons, List.length_nil, List.length_map, Nat.reduceAdd, Nat.reduceSub, List.replicate_succ, List.replicate_zero, List.cons_append, List.nil_append])
    (have w1 := h1; refine wk ?_; clear w1; (repeat' first | exact True.intro | refine Lf.mk ?_ ?_); all_goals intro hP)
    (refine resX ?_; try exact True.intro)
    simp [h1]
  · (refine ARun.intro Tryd.func25 rfl Tryd.call25 Tryd.ntmps25 Tryd.results25 ?_; simp only [List.length_cons, List.length_nil, List.length_map, Nat.reduceAdd, Nat.reduceSub, List.replicate_succ, List.replicate_zero, List.cons_append, List.nil_append])
    (have w1 := h1; refine wk ?_; clear w1; (repeat' first | exact True.intro | refine Lf.mk ?_ ?_); all_goals intro hP)
    (refine resX ?_; try exact True.intro)
    simp [h1]
theorem RDown_run (a b : Int) (ha : isV a) (hb' : b ≠ 0) (H0 : List AObj) : ARun Tryd.prog 43 [.i a, .i b] H0 (.ret (.i (downS a b)) H0) := by
  have h1 := tdiv_bd ha hb'
  have w1 : IntKind.i64.wrap (a.tdiv b) = a.tdiv b := wrap_of (by omega) (by omega)
  have w2 : IntKind.i64.wrap (a.tdiv b - 1) = a.tdiv b - 1 := wrap_of (by omega) (by omega)
  unfold downS
  by_cases hm : a.tmod b = 0
  · have hm' : (a.tmod b != 0) = false := by simp [hm]
    (refine ARun.intro Tryd.func43 rfl Tryd.call43 Tryd.ntmps43 Tryd.results43 ?_; simp only [List.length_cons, List.length_nil, List.length_map, Nat.reduceAdd, Nat.reduceSub, List.replicate_succ, List.replicate_zero, List.cons_append, List.nil_append])
    (have w1 := hb'; have w2 := hm'; have w3 := w1; refine wk ?_; clear w1 w2 w3; (repeat' first | exact True.intro | refine Lf.mk ?_ ?_); all_goals intro hP)
    (refine resX ?_; try exact True.intro)
    simp [hm]
  · have hm' : (a.tmod b != 0) = true := by simpa using hm
    cases hd : (decide (a < 0) == decide (b < 0)) with
    | true =>
      have hd' : (decide (a < 0) != decide (b < 0)) = false := by simp only [bne, hd]; rfl
      (refine ARun.intro Tryd.func43 rfl Tryd.call43 Tryd.ntmps43 Tryd.results43 ?_; simp only [List.length_cons, List.length_nil, List.length_map, Nat.reduceAdd, Nat.reduceSub, List.replicate_succ, List.replicate_zero, List.cons_append, List.nil_append])
      (have w1 := hb'; have w2 := hm'; have w3 := hd; have w4 := w1; refine wk ?_; clear w1 w2 w3 w4; (repeat' first | exact True.intro | refine Lf.mk ?_ ?_); all_goals intro hP)
      (refine resX ?_; try exact True.intro)
      all_goals simp only [hd', Bool.false_eq_true, and_false, if_false]
    | false =>
      have hd' : (decide (a < 0) != decide (b < 0)) = true := by simp only [bne, hd]; rfl
      (refine ARun.intro Tryd.func43 rfl Tryd.call43 Tryd.ntmps43 Tryd.results43 ?_; simp only [List.length_cons, List.length_nil, List.length_map, Nat.reduceAdd, Nat.reduceSub, List.replicate_succ, List.replicate_zero, List.cons_append, List.nil_append])
      (have w1 := hb'; have w2 := hm'; have w3 := hd; have w4 := w1; have w5 := w2; refine wk ?_; clear w1 w2 w3 w4 w5; (repeat' first | exact True.intro | refine Lf.mk ?_ ?_); all_goals intro hP)
      (refine resX ?_; try exact True.intro)
      all_goals simp only [hd', hm, ne_eq, not_false_eq_true, and_self, if_true]
theorem RHolds_run (a rel b : Int) (hr : 1 ≤ rel ∧ rel ≤ 6) (H0 : List AObj) : ARun Tryd.prog 31 [.i rel, .i a, .i b] H0 (.ret (.b (holdsS a rel b)) H0) := by
  have hc : rel = 1 ∨ rel = 2 ∨ rel = 3 ∨ rel = 4 ∨ rel = 5 ∨ rel = 6 := by omega
  clear hr
  rcases hc with rfl | rfl | rfl | rfl | rfl | rfl
  all_goals
    (refine ARun.intro Tryd.func31 rfl Tryd.call31 Tryd.ntmps31 Tryd.results31 ?_; simp only [List.length_cons, List.length_nil, List.length_map, Nat.reduceAdd, Nat.reduceSub, List.replicate_succ, List.replicate_zero, List.cons_append, List.nil_append])
    (refine wk ?_; (repeat' first | exact True.intro | refine Lf.mk ?_ ?_); all_goals intro hP)
    (refine resX ?_; try exact True.intro)
    all_goals simp [holdsS]
theorem Rabs_run (n : Int) (hn' : -4000000000000000000 ≤ n ∧ n ≤ 4000000000000000000) (H0 : List AObj) : ARun Tryd.prog 49 [.i n] H0 (.ret (.i (if n < -n then -n else n)) H0) := by
  have w1 : IntKind.i64.wrap (-n) = -n := wrap_of (by omega) (by omega)
  (refine ARun.intro Tryd.func49 rfl Tryd.call49 Tryd.ntmps49 Tryd.results49 ?_; simp only [List.length_cons, List.length_nil, List.length_map, Nat.reduceAdd, Nat.reduceSub, List.replicate_succ, List.replicate_zero, List.cons_append, List.nil_append])
  (have w1 := w1; refine wk ?_; clear w1; (repeat' first | exact True.intro | refine Lf.mk ?_ ?_); all_goals intro hP)
  (refine resX ?_; try exact True.intro)
theorem RTakes_run (op : Int) (hop : 1 ≤ op ∧ op ≤ 13) (H0 : List AObj) : ARun Tryd.prog 34 [.i op] H0 (.ret (.tup [.i (takes op), .i (puts op)]) H0) := by
  by_cases h1 : op = 1
  · subst h1
    (refine ARun.intro Tryd.func34 rfl Tryd.call34 Tryd.ntmps34 Tryd.results34 ?_; simp only [List.length_cons, List.length_nil, List.length_map, Nat.reduceAdd, Nat.reduceSub, List.replicate_succ, List.replicate_zero, List.cons_append, List.nil_append])
    (refine wk ?_; (repeat' first | exact True.intro | refine Lf.mk ?_ ?_); all_goals intro hP)
    (refine resX ?_; try exact True.intro)
  by_cases h2 : op = 2
  · subst h2
    (refine ARun.intro Tryd.func34 rfl Tryd.call34 Tryd.ntmps34 Tryd.results34 ?_; simp only [List.length_cons, List.length_nil, List.length_map, Nat.reduceAdd, Nat.reduceSub, List.replicate_succ, List.replicate_zero, List.cons_append, List.nil_append])
    (refine wk ?_; (repeat' first | exact True.intro | refine Lf.mk ?_ ?_); all_goals intro hP)
    (refine resX ?_; try exact True.intro)
  by_cases h3 : op = 3
  · subst h3
    (refine ARun.intro Tryd.func34 rfl Tryd.call34 Tryd.ntmps34 Tryd.results34 ?_; simp only [List.length_cons, List.length_nil, List.length_map, Nat.reduceAdd, Nat.reduceSub, List.replicate_succ, List.replicate_zero, List.cons_append, List.nil_append])
    (refine wk ?_; (repeat' first | exact True.intro | refine Lf.mk ?_ ?_); all_goals intro hP)
    (refine resX ?_; try exact True.intro)
  by_cases h11 : op = 11
  · subst h11
    (refine ARun.intro Tryd.func34 rfl Tryd.call34 Tryd.ntmps34 Tryd.results34 ?_; simp only [List.length_cons, List.length_nil, List.length_map, Nat.reduceAdd, Nat.reduceSub, List.replicate_succ, List.replicate_zero, List.cons_append, List.nil_append])
    (refine wk ?_; (repeat' first | exact True.intro | refine Lf.mk ?_ ?_); all_goals intro hP)
    (refine resX ?_; try exact True.intro)
  by_cases h12 : op = 12
  · subst h12
    (refine ARun.intro Tryd.func34 rfl Tryd.call34 Tryd.ntmps34 Tryd.results34 ?_; simp only [List.length_cons, List.length_nil, List.length_map, Nat.reduceAdd, Nat.reduceSub, List.replicate_succ, List.replicate_zero, List.cons_append, List.nil_append])
    (refine wk ?_; (repeat' first | exact True.intro | refine Lf.mk ?_ ?_); all_goals intro hP)
    (refine resX ?_; try exact True.intro)
  by_cases h13 : op = 13
  · subst h13
    (refine ARun.intro Tryd.func34 rfl Tryd.call34 Tryd.ntmps34 Tryd.results34 ?_; simp only [List.length_cons, List.length_nil, List.length_map, Nat.reduceAdd, Nat.reduceSub, List.replicate_succ, List.replicate_zero, List.cons_append, List.nil_append])
    (refine wk ?_; (repeat' first | exact True.intro | refine Lf.mk ?_ ?_); all_goals intro hP)
    (refine resX ?_; try exact True.intro)
  have e1 : (op == 1) = false := by simpa using h1
  have e2 : (op == 2) = false := by simpa using h2
  have e3 : (op == 3) = false := by simpa using h3
  have e11 : (op == 11) = false := by simpa using h11
  have e12 : (op == 12) = false := by simpa using h12
  have e13 : (op == 13) = false := by simpa using h13
  (refine ARun.intro Tryd.func34 rfl Tryd.call34 Tryd.ntmps34 Tryd.results34 ?_; simp only [List.length_cons, List.length_nil, List.length_map, Nat.reduceAdd, Nat.reduceSub, List.replicate_succ, List.replicate_zero, List.cons_append, List.nil_append])
  (have w1 := e1; have w2 := e2; have w3 := e3; have w4 := e11; have w5 := e12; have w6 := e13; refine wk ?_; clear w1 w2 w3 w4 w5 w6; (repeat' first | exact True.intro | refine Lf.mk ?_ ?_); all_goals intro hP)
  (refine resX ?_; try exact True.intro)
  all_goals simp [takes, puts, h1, h2, h3, h11, h12, h13]
theorem RProduct_run (a b : Int) (ha : isV a) (hb' : isV b) (H0 : List AObj) : ARun Tryd.prog 42 [.i a, .i b] H0 (.ret (.i (prodS a b)) H0) := by
  by_cases h0 : a = 0
  · subst h0
    have w1 : IntKind.i64.wrap (0 * b) = 0 := by rw [Int.zero_mul]; rfl
    (refine ARun.intro Tryd.func42 rfl Tryd.call42 Tryd.ntmps42 Tryd.results42 ?_; simp only [List.length_cons, List.length_nil, List.length_map, Nat.reduceAdd, Nat.reduceSub, List.replicate_succ, List.replicate_zero, List.cons_append, List.nil_append])
    (have w1 := w1; refine wk ?_; clear w1; (repeat' first | exact True.intro | refine Lf.mk ?_ ?_); all_goals intro hP)
    (refine resX ?_; try exact True.intro)
    all_goals simp [prodS]
  · have h0' : (a != 0) = true := by simpa using h0
    have hm0 : ¬ (if a < -a then -a else a) = 0 := by split <;> omega
    have hp : 0 < (if a < -a then -a else a) := by split <;> omega
    have ca := fun H0 => Rabs_run a ⟨by omega, by omega⟩ H0
    have cb := fun H0 => Rabs_run b ⟨by omega, by omega⟩ H0
    generalize hm : (if a < -a then -a else a) = m at hm0 hp ca
    have b2 := tdiv_bd (a := 1000000000000) (b := m) ⟨by omega, by omega⟩ hm0
    have w3 : IntKind.i64.wrap ((1000000000000 : Int).tdiv m) = (1000000000000 : Int).tdiv m := wrap_of (by omega) (by omega)
    have e2 : (-1000000000000 : Int).tdiv m = -((1000000000000 : Int).tdiv m) := Int.neg_tdiv _ _
    by_cases hbd : b < (-1000000000000 : Int).tdiv m ∨ (1000000000000 : Int).tdiv m < b
    · have hg : (1000000000000 : Int).tdiv m < (if b < -b then -b else b) := by rw [e2] at hbd; split <;> omega
      generalize (if b < -b then -b else b) = m2 at hg cb
      (refine ARun.intro Tryd.func42 rfl Tryd.call42 Tryd.ntmps42 Tryd.results42 ?_; simp only [List.length_cons, List.length_nil, List.length_map, Nat.reduceAdd, Nat.reduceSub, List.replicate_succ, List.replicate_zero, List.cons_append, List.nil_append])
      (have w1 := h0'; have w2 := hm0; have w3 := w3; have w4 := hg; have c1 := fun z1 => cb z1; have c2 := fun z1 => ca z1; refine wk ?_; clear w1 w2 w3 w4 c1 c2; (repeat' first | exact True.intro | refine Lf.mk ?_ ?_); all_goals intro hP)
      (refine resX ?_; try exact True.intro)
      all_goals rw [prodS_out h0 hm hbd]
    · have hd1 : (-1000000000000 : Int).tdiv m ≤ b := Int.not_lt.1 fun h => hbd (.inl h)
      have hd2 : b ≤ (1000000000000 : Int).tdiv m := Int.not_lt.1 fun h => hbd (.inr h)
      have hg : ¬ (1000000000000 : Int).tdiv m < (if b < -b then -b else b) := by rw [e2] at hd1; split <;> omega
      have hmul := prod_fits hm hp hd1 hd2
      generalize (if b < -b then -b else b) = m2 at hg cb
      have w4 : IntKind.i64.wrap (a * b) = a * b := wrap_of (by omega) (by omega)
      (refine ARun.intro Tryd.func42 rfl Tryd.call42 Tryd.ntmps42 Tryd.results42 ?_; simp only [List.length_cons, List.length_nil, List.length_map, Nat.reduceAdd, Nat.reduceSub, List.replicate_succ, List.replicate_zero, List.cons_append, List.nil_append])
      (have w1 := h0'; have w2 := hm0; have w3 := w3; have w4 := w4; have w5 := hg; have c1 := fun z1 => cb z1; have c2 := fun z1 => ca z1; refine wk ?_; clear w1 w2 w3 w4 w5 c1 c2; (repeat' first | exact True.intro | refine Lf.mk ?_ ?_); all_goals intro hP)
      (refine resX ?_; try exact True.intro)
      all_goals rw [prodS_in h0 hm hbd]
end Go.Proofs.YtimmncjdknlegaaDoor.Y

set_option maxHeartbeats 8000000
set_option maxRecDepth 20000
set_option linter.unusedVariables false
set_option linter.unusedSimpArgs false
set_option linter.unusedSectionVars false
namespace Go.Proofs.YtimmncjdknlegaaDoor.Y
open Go.Proofs.YtimmncjdknlegaaDoor.AL Go.Proofs Go
attribute [local irreducible] AWP AWL AWG AWR AWE AWX AWO AWSeq AWSG AWSR AWSO AWSE AWSF GoodP OGW OGR OGE OGX PGW PGR PGE Wk AWLoop AWPD AWLD

theorem Rinstr_run (op nn rel i len vars : Int) (H0 : List AObj) :
    ARun Tryd.prog 33 [.agg [.i op, .i nn, .i rel], .i i, .i len, .i vars] H0 (.ret (.b (insOk ⟨op, nn, rel⟩ i len vars)) H0) := by
  by_cases h1 : op = 1
  · subst h1
    by_cases hr : rel = 0
    · subst hr
      by_cases hl : -1000000000000 ≤ nn
      · (refine ARun.intro Tryd.func33 rfl Tryd.call33 Tryd.ntmps33 Tryd.results33 ?_; simp only [List.length_cons, List.length_nil, List.length_map, Nat.reduceAdd, Nat.reduceSub, List.replicate_succ, List.replicate_zero, List.cons_append, List.nil_append])
        (have w1 := hl; refine wk ?_; clear w1; (repeat' first | exact True.intro | refine Lf.mk ?_ ?_); all_goals intro hP)
        (refine resX ?_; try exact True.intro)
        all_goals simp [insOk, hl]
        all_goals (try first | rfl | omega | (rw [Bool.eq_iff_iff]; simp; omega))
      · (refine ARun.intro Tryd.func33 rfl Tryd.call33 Tryd.ntmps33 Tryd.results33 ?_; simp only [List.length_cons, List.length_nil, List.length_map, Nat.reduceAdd, Nat.reduceSub, List.replicate_succ, List.replicate_zero, List.cons_append, List.nil_append])
        (have w1 := hl; refine wk ?_; clear w1; (repeat' first | exact True.intro | refine Lf.mk ?_ ?_); all_goals intro hP)
        (refine resX ?_; try exact True.intro)
        all_goals simp [insOk, hl]
        all_goals (try first | rfl | omega | (rw [Bool.eq_iff_iff]; simp; omega))
    · have hr' : (rel != 0) = true := by simpa using hr
      (refine ARun.intro Tryd.func33 rfl Tryd.call33 Tryd.ntmps33 Tryd.results33 ?_; simp only [List.length_cons, List.length_nil, List.length_map, Nat.reduceAdd, Nat.reduceSub, List.replicate_succ, List.replicate_zero, List.cons_append, List.nil_append])
      (have w1 := hr'; refine wk ?_; clear w1; (repeat' first | exact True.intro | refine Lf.mk ?_ ?_); all_goals intro hP)
      (refine resX ?_; try exact True.intro)
      all_goals simp [insOk, hr]
      all_goals (try first | rfl | omega | (rw [Bool.eq_iff_iff]; simp; omega))
  by_cases h2 : op = 2
  · subst h2
    by_cases hr : rel = 0
    · subst hr
      by_cases hl : 0 ≤ nn
      · (refine ARun.intro Tryd.func33 rfl Tryd.call33 Tryd.ntmps33 Tryd.results33 ?_; simp only [List.length_cons, List.length_nil, List.length_map, Nat.reduceAdd, Nat.reduceSub, List.replicate_succ, List.replicate_zero, List.cons_append, List.nil_append])
        (have w1 := hl; refine wk ?_; clear w1; (repeat' first | exact True.intro | refine Lf.mk ?_ ?_); all_goals intro hP)
        (refine resX ?_; try exact True.intro)
        all_goals simp [insOk, hl]
        all_goals (try first | rfl | omega | (rw [Bool.eq_iff_iff]; simp; omega))
      · (refine ARun.intro Tryd.func33 rfl Tryd.call33 Tryd.ntmps33 Tryd.results33 ?_; simp only [List.length_cons, List.length_nil, List.length_map, Nat.reduceAdd, Nat.reduceSub, List.replicate_succ, List.replicate_zero, List.cons_append, List.nil_append])
        (have w1 := hl; refine wk ?_; clear w1; (repeat' first | exact True.intro | refine Lf.mk ?_ ?_); all_goals intro hP)
        (refine resX ?_; try exact True.intro)
        all_goals simp [insOk, hl]
        all_goals (try first | rfl | omega | (rw [Bool.eq_iff_iff]; simp; omega))
    · have hr' : (rel != 0) = true := by simpa using hr
      (refine ARun.intro Tryd.func33 rfl Tryd.call33 Tryd.ntmps33 Tryd.results33 ?_; simp only [List.length_cons, List.length_nil, List.length_map, Nat.reduceAdd, Nat.reduceSub, List.replicate_succ, List.replicate_zero, List.cons_append, List.nil_append])
      (have w1 := hr'; refine wk ?_; clear w1; (repeat' first | exact True.intro | refine Lf.mk ?_ ?_); all_goals intro hP)
      (refine resX ?_; try exact True.intro)
      all_goals simp [insOk, hr]
      all_goals (try first | rfl | omega | (rw [Bool.eq_iff_iff]; simp; omega))
  by_cases h11 : op = 11
  · subst h11
    by_cases hr : rel = 0
    · subst hr
      by_cases hl : 0 ≤ nn
      · (refine ARun.intro Tryd.func33 rfl Tryd.call33 Tryd.ntmps33 Tryd.results33 ?_; simp only [List.length_cons, List.length_nil, List.length_map, Nat.reduceAdd, Nat.reduceSub, List.replicate_succ, List.replicate_zero, List.cons_append, List.nil_append])
        (have w1 := hl; refine wk ?_; clear w1; (repeat' first | exact True.intro | refine Lf.mk ?_ ?_); all_goals intro hP)
        (refine resX ?_; try exact True.intro)
        all_goals simp [insOk, hl]
        all_goals (try first | rfl | omega | (rw [Bool.eq_iff_iff]; simp; omega))
      · (refine ARun.intro Tryd.func33 rfl Tryd.call33 Tryd.ntmps33 Tryd.results33 ?_; simp only [List.length_cons, List.length_nil, List.length_map, Nat.reduceAdd, Nat.reduceSub, List.replicate_succ, List.replicate_zero, List.cons_append, List.nil_append])
        (have w1 := hl; refine wk ?_; clear w1; (repeat' first | exact True.intro | refine Lf.mk ?_ ?_); all_goals intro hP)
        (refine resX ?_; try exact True.intro)
        all_goals simp [insOk, hl]
        all_goals (try first | rfl | omega | (rw [Bool.eq_iff_iff]; simp; omega))
    · have hr' : (rel != 0) = true := by simpa using hr
      (refine ARun.intro Tryd.func33 rfl Tryd.call33 Tryd.ntmps33 Tryd.results33 ?_; simp only [List.length_cons, List.length_nil, List.length_map, Nat.reduceAdd, Nat.reduceSub, List.replicate_succ, List.replicate_zero, List.cons_append, List.nil_append])
      (have w1 := hr'; refine wk ?_; clear w1; (repeat' first | exact True.intro | refine Lf.mk ?_ ?_); all_goals intro hP)
      (refine resX ?_; try exact True.intro)
      all_goals simp [insOk, hr]
      all_goals (try first | rfl | omega | (rw [Bool.eq_iff_iff]; simp; omega))
  by_cases h3 : op = 3
  · subst h3
    by_cases hr : rel = 0
    · subst hr
      by_cases hl : 0 ≤ nn
      · (refine ARun.intro Tryd.func33 rfl Tryd.call33 Tryd.ntmps33 Tryd.results33 ?_; simp only [List.length_cons, List.length_nil, List.length_map, Nat.reduceAdd, Nat.reduceSub, List.replicate_succ, List.replicate_zero, List.cons_append, List.nil_append])
        (have w1 := hl; refine wk ?_; clear w1; (repeat' first | exact True.intro | refine Lf.mk ?_ ?_); all_goals intro hP)
        (refine resX ?_; try exact True.intro)
        all_goals simp [insOk, hl]
        all_goals (try first | rfl | omega | (rw [Bool.eq_iff_iff]; simp; omega))
      · (refine ARun.intro Tryd.func33 rfl Tryd.call33 Tryd.ntmps33 Tryd.results33 ?_; simp only [List.length_cons, List.length_nil, List.length_map, Nat.reduceAdd, Nat.reduceSub, List.replicate_succ, List.replicate_zero, List.cons_append, List.nil_append])
        (have w1 := hl; refine wk ?_; clear w1; (repeat' first | exact True.intro | refine Lf.mk ?_ ?_); all_goals intro hP)
        (refine resX ?_; try exact True.intro)
        all_goals simp [insOk, hl]
        all_goals (try first | rfl | omega | (rw [Bool.eq_iff_iff]; simp; omega))
    · have hr' : (rel != 0) = true := by simpa using hr
      (refine ARun.intro Tryd.func33 rfl Tryd.call33 Tryd.ntmps33 Tryd.results33 ?_; simp only [List.length_cons, List.length_nil, List.length_map, Nat.reduceAdd, Nat.reduceSub, List.replicate_succ, List.replicate_zero, List.cons_append, List.nil_append])
      (have w1 := hr'; refine wk ?_; clear w1; (repeat' first | exact True.intro | refine Lf.mk ?_ ?_); all_goals intro hP)
      (refine resX ?_; try exact True.intro)
      all_goals simp [insOk, hr]
      all_goals (try first | rfl | omega | (rw [Bool.eq_iff_iff]; simp; omega))
  by_cases h12 : op = 12
  · subst h12
    by_cases hl : i < nn
    · by_cases hh : nn ≤ len
      · by_cases h1 : 1 ≤ rel
        · have hz : (rel != 0) = true := by simp; omega
          (refine ARun.intro Tryd.func33 rfl Tryd.call33 Tryd.ntmps33 Tryd.results33 ?_; simp only [List.length_cons, List.length_nil, List.length_map, Nat.reduceAdd, Nat.reduceSub, List.replicate_succ, List.replicate_zero, List.cons_append, List.nil_append])
          (have w1 := hl; have w2 := hh; have w3 := h1; have w4 := hz; refine wk ?_; clear w1 w2 w3 w4; (repeat' first | exact True.intro | refine Lf.mk ?_ ?_); all_goals intro hP)
          (refine resX ?_; try exact True.intro)
          all_goals simp [insOk, hl, hh, h1]
          all_goals (try first | rfl | omega | (rw [Bool.eq_iff_iff]; simp; omega))
        · by_cases hz : rel = 0
          · subst hz
            (refine ARun.intro Tryd.func33 rfl Tryd.call33 Tryd.ntmps33 Tryd.results33 ?_; simp only [List.length_cons, List.length_nil, List.length_map, Nat.reduceAdd, Nat.reduceSub, List.replicate_succ, List.replicate_zero, List.cons_append, List.nil_append])
            (have w1 := hl; have w2 := hh; have w3 := h1; refine wk ?_; clear w1 w2 w3; (repeat' first | exact True.intro | refine Lf.mk ?_ ?_); all_goals intro hP)
            (refine resX ?_; try exact True.intro)
            all_goals simp [insOk, hl, hh, h1]
            all_goals (try first | rfl | omega | (rw [Bool.eq_iff_iff]; simp; omega))
          · have hz' : (rel != 0) = true := by simpa using hz
            (refine ARun.intro Tryd.func33 rfl Tryd.call33 Tryd.ntmps33 Tryd.results33 ?_; simp only [List.length_cons, List.length_nil, List.length_map, Nat.reduceAdd, Nat.reduceSub, List.replicate_succ, List.replicate_zero, List.cons_append, List.nil_append])
            (have w1 := hl; have w2 := hh; have w3 := h1; have w4 := hz'; refine wk ?_; clear w1 w2 w3 w4; (repeat' first | exact True.intro | refine Lf.mk ?_ ?_); all_goals intro hP)
            (refine resX ?_; try exact True.intro)
            all_goals simp [insOk, hl, hh, h1]
            all_goals (try first | rfl | omega | (rw [Bool.eq_iff_iff]; simp; omega))
      · by_cases hz : rel = 0
        · subst hz
          (refine ARun.intro Tryd.func33 rfl Tryd.call33 Tryd.ntmps33 Tryd.results33 ?_; simp only [List.length_cons, List.length_nil, List.length_map, Nat.reduceAdd, Nat.reduceSub, List.replicate_succ, List.replicate_zero, List.cons_append, List.nil_append])
          (have w1 := hl; have w2 := hh; refine wk ?_; clear w1 w2; (repeat' first | exact True.intro | refine Lf.mk ?_ ?_); all_goals intro hP)
          (refine resX ?_; try exact True.intro)
          all_goals simp [insOk, hl, hh]
          all_goals (try first | rfl | omega | (rw [Bool.eq_iff_iff]; simp; omega))
        · have hz' : (rel != 0) = true := by simpa using hz
          (refine ARun.intro Tryd.func33 rfl Tryd.call33 Tryd.ntmps33 Tryd.results33 ?_; simp only [List.length_cons, List.length_nil, List.length_map, Nat.reduceAdd, Nat.reduceSub, List.replicate_succ, List.replicate_zero, List.cons_append, List.nil_append])
          (have w1 := hl; have w2 := hh; have w3 := hz'; refine wk ?_; clear w1 w2 w3; (repeat' first | exact True.intro | refine Lf.mk ?_ ?_); all_goals intro hP)
          (refine resX ?_; try exact True.intro)
          all_goals simp [insOk, hl, hh]
          all_goals (try first | rfl | omega | (rw [Bool.eq_iff_iff]; simp; omega))
    · by_cases hz : rel = 0
      · subst hz
        (refine ARun.intro Tryd.func33 rfl Tryd.call33 Tryd.ntmps33 Tryd.results33 ?_; simp only [List.length_cons, List.length_nil, List.length_map, Nat.reduceAdd, Nat.reduceSub, List.replicate_succ, List.replicate_zero, List.cons_append, List.nil_append])
        (have w1 := hl; refine wk ?_; clear w1; (repeat' first | exact True.intro | refine Lf.mk ?_ ?_); all_goals intro hP)
        (refine resX ?_; try exact True.intro)
        all_goals simp [insOk, hl]
        all_goals (try first | rfl | omega | (rw [Bool.eq_iff_iff]; simp; omega))
      · have hz' : (rel != 0) = true := by simpa using hz
        (refine ARun.intro Tryd.func33 rfl Tryd.call33 Tryd.ntmps33 Tryd.results33 ?_; simp only [List.length_cons, List.length_nil, List.length_map, Nat.reduceAdd, Nat.reduceSub, List.replicate_succ, List.replicate_zero, List.cons_append, List.nil_append])
        (have w1 := hl; have w2 := hz'; refine wk ?_; clear w1 w2; (repeat' first | exact True.intro | refine Lf.mk ?_ ?_); all_goals intro hP)
        (refine resX ?_; try exact True.intro)
        all_goals simp [insOk, hl]
        all_goals (try first | rfl | omega | (rw [Bool.eq_iff_iff]; simp; omega))
  by_cases h13 : op = 13
  · subst h13
    by_cases hr : rel = 0
    · subst hr
      by_cases hl : i < nn
      · (refine ARun.intro Tryd.func33 rfl Tryd.call33 Tryd.ntmps33 Tryd.results33 ?_; simp only [List.length_cons, List.length_nil, List.length_map, Nat.reduceAdd, Nat.reduceSub, List.replicate_succ, List.replicate_zero, List.cons_append, List.nil_append])
        (have w1 := hl; refine wk ?_; clear w1; (repeat' first | exact True.intro | refine Lf.mk ?_ ?_); all_goals intro hP)
        (refine resX ?_; try exact True.intro)
        all_goals simp [insOk, hl]
        all_goals (try first | rfl | omega | (rw [Bool.eq_iff_iff]; simp; omega))
      · (refine ARun.intro Tryd.func33 rfl Tryd.call33 Tryd.ntmps33 Tryd.results33 ?_; simp only [List.length_cons, List.length_nil, List.length_map, Nat.reduceAdd, Nat.reduceSub, List.replicate_succ, List.replicate_zero, List.cons_append, List.nil_append])
        (have w1 := hl; refine wk ?_; clear w1; (repeat' first | exact True.intro | refine Lf.mk ?_ ?_); all_goals intro hP)
        (refine resX ?_; try exact True.intro)
        all_goals simp [insOk, hl]
        all_goals (try first | rfl | omega | (rw [Bool.eq_iff_iff]; simp; omega))
    · have hr' : (rel != 0) = true := by simpa using hr
      (refine ARun.intro Tryd.func33 rfl Tryd.call33 Tryd.ntmps33 Tryd.results33 ?_; simp only [List.length_cons, List.length_nil, List.length_map, Nat.reduceAdd, Nat.reduceSub, List.replicate_succ, List.replicate_zero, List.cons_append, List.nil_append])
      (have w1 := hr'; refine wk ?_; clear w1; (repeat' first | exact True.intro | refine Lf.mk ?_ ?_); all_goals intro hP)
      (refine resX ?_; try exact True.intro)
      all_goals simp [insOk, hr]
      all_goals (try first | rfl | omega | (rw [Bool.eq_iff_iff]; simp; omega))
  have e1 : (op == 1) = false := by simpa using h1
  have e2 : (op == 2) = false := by simpa using h2
  have e11 : (op == 11) = false := by simpa using h11
  have e3 : (op == 3) = false := by simpa using h3
  have e12 : (op == 12) = false := by simpa using h12
  have e13 : (op == 13) = false := by simpa using h13
  have ne12 : (op != 12) = true := by simpa using h12
  by_cases hlo : op < 1
  · have hn' : ¬ 4 ≤ op := by omega
    (refine ARun.intro Tryd.func33 rfl Tryd.call33 Tryd.ntmps33 Tryd.results33 ?_; simp only [List.length_cons, List.length_nil, List.length_map, Nat.reduceAdd, Nat.reduceSub, List.replicate_succ, List.replicate_zero, List.cons_append, List.nil_append])
    (have w1 := hlo; have w2 := e1; have w3 := e2; have w4 := e11; have w5 := e3; have w6 := e12; have w7 := e13; have w8 := ne12; refine wk ?_; clear w1 w2 w3 w4 w5 w6 w7 w8; (repeat' first | exact True.intro | refine Lf.mk ?_ ?_); all_goals intro hP)
    (refine resX ?_; try exact True.intro)
    all_goals simp [insOk, h1, h2, h3, h11, h12, h13, hn']
    all_goals (try first | rfl | omega | (rw [Bool.eq_iff_iff]; simp; omega))
  by_cases hhi : 13 < op
  · have hn' : ¬ op ≤ 10 := by omega
    (refine ARun.intro Tryd.func33 rfl Tryd.call33 Tryd.ntmps33 Tryd.results33 ?_; simp only [List.length_cons, List.length_nil, List.length_map, Nat.reduceAdd, Nat.reduceSub, List.replicate_succ, List.replicate_zero, List.cons_append, List.nil_append])
    (have w1 := hlo; have w2 := hhi; have w3 := e1; have w4 := e2; have w5 := e11; have w6 := e3; have w7 := e12; have w8 := e13; have w9 := ne12; refine wk ?_; clear w1 w2 w3 w4 w5 w6 w7 w8 w9; (repeat' first | exact True.intro | refine Lf.mk ?_ ?_); all_goals intro hP)
    (refine resX ?_; try exact True.intro)
    all_goals simp [insOk, h1, h2, h3, h11, h12, h13, hn']
    all_goals (try first | rfl | omega | (rw [Bool.eq_iff_iff]; simp; omega))
  have ho : 4 ≤ op ∧ op ≤ 10 := by omega
  by_cases hr : rel = 0
  · subst hr
    (refine ARun.intro Tryd.func33 rfl Tryd.call33 Tryd.ntmps33 Tryd.results33 ?_; simp only [List.length_cons, List.length_nil, List.length_map, Nat.reduceAdd, Nat.reduceSub, List.replicate_succ, List.replicate_zero, List.cons_append, List.nil_append])
    (have w1 := hlo; have w2 := hhi; have w3 := e1; have w4 := e2; have w5 := e11; have w6 := e3; have w7 := e12; have w8 := e13; have w9 := ne12; refine wk ?_; clear w1 w2 w3 w4 w5 w6 w7 w8 w9; (repeat' first | exact True.intro | refine Lf.mk ?_ ?_); all_goals intro hP)
    (refine resX ?_; try exact True.intro)
    all_goals simp [insOk, h1, h2, h3, h11, h12, h13, ho.1, ho.2]
    all_goals (try first | rfl | omega | (rw [Bool.eq_iff_iff]; simp; omega))
  · have hr' : (rel != 0) = true := by simpa using hr
    (refine ARun.intro Tryd.func33 rfl Tryd.call33 Tryd.ntmps33 Tryd.results33 ?_; simp only [List.length_cons, List.length_nil, List.length_map, Nat.reduceAdd, Nat.reduceSub, List.replicate_succ, List.replicate_zero, List.cons_append, List.nil_append])
    (have w1 := hlo; have w2 := hhi; have w3 := hr'; have w4 := e1; have w5 := e2; have w6 := e11; have w7 := e3; have w8 := e12; have w9 := e13; have w10 := ne12; refine wk ?_; clear w1 w2 w3 w4 w5 w6 w7 w8 w9 w10; (repeat' first | exact True.intro | refine Lf.mk ?_ ?_); all_goals intro hP)
    (refine resX ?_; try exact True.intro)
    all_goals simp [insOk, h1, h2, h3, h11, h12, h13, hr]
    all_goals (try first | rfl | omega | (rw [Bool.eq_iff_iff]; simp; omega))
end Go.Proofs.YtimmncjdknlegaaDoor.Y

set_option maxHeartbeats 8000000
set_option maxRecDepth 20000
set_option linter.unusedVariables false
set_option linter.unusedSimpArgs false
set_option linter.unusedSectionVars false
namespace Go.Proofs.YtimmncjdknlegaaDoor.Y
open Go.Proofs.YtimmncjdknlegaaDoor.AL Go.Proofs Go
attribute [local irreducible] AWP AWL AWG AWR AWE AWX AWO AWSeq AWSG AWSR AWSO AWSE AWSF GoodP OGW OGR OGE OGX PGW PGR PGE Wk AWLoop AWPD AWLD

def outC (r : Except Int Int) : AV := match r with
  | .ok v => .tup [.i v, .i 0]
  | .error e => .tup [.i 0, .i e]
theorem valS_out (n : Int) : outC (valS n) = if (decide (-1000000000000 ≤ n) && decide (n ≤ 1000000000000)) = true then .tup [.i n, .i 0] else .tup [.i 0, .i 3] := by
  unfold valS
  by_cases h : -1000000000000 ≤ n ∧ n ≤ 1000000000000
  · rw [if_pos h, if_pos (by simp [h.1, h.2])]; rfl
  · rw [if_neg h, if_neg (by simp; omega)]; rfl
theorem Rcalc_run (op a b : Int) (hop : 4 ≤ op ∧ op ≤ 10) (ha : isV a) (hb' : isV b) (H0 : List AObj) :
    ARun Tryd.prog 32 [.i op, .i a, .i b] H0 (.ret (outC (calcS op a b)) H0) := by
  have hv := fun n H0 => RValue_run n H0
  have h : op = 4 ∨ op = 5 ∨ op = 6 ∨ op = 7 ∨ op = 8 ∨ op = 9 ∨ op = 10 := by omega
  clear hop
  rcases h with rfl | rfl | rfl | rfl | rfl | rfl | rfl
  all_goals simp only [calcS, Int.reduceEq, if_false, if_true]
  · rw [valS_out]
    have w1 : IntKind.i64.wrap (a + b) = a + b := wrap_of (by omega) (by omega)
    have hv := hv (a + b)
    cases hd : (decide (-1000000000000 ≤ (a + b)) && decide ((a + b) ≤ 1000000000000)) with
    | true =>
      simp only [hd] at hv
      (refine ARun.intro Tryd.func32 rfl Tryd.call32 Tryd.ntmps32 Tryd.results32 ?_; simp only [List.length_cons, List.length_nil, List.length_map, Nat.reduceAdd, Nat.reduceSub, List.replicate_succ, List.replicate_zero, List.cons_append, List.nil_append])
      (have w1 := w1; have c1 := fun z1 => hv z1; refine wk ?_; clear w1 c1; (repeat' first | exact True.intro | refine Lf.mk ?_ ?_); all_goals intro hP)
      (refine resX ?_; try exact True.intro)
    | false =>
      simp only [hd] at hv
      (refine ARun.intro Tryd.func32 rfl Tryd.call32 Tryd.ntmps32 Tryd.results32 ?_; simp only [List.length_cons, List.length_nil, List.length_map, Nat.reduceAdd, Nat.reduceSub, List.replicate_succ, List.replicate_zero, List.cons_append, List.nil_append])
      (have w1 := w1; have c1 := fun z1 => hv z1; refine wk ?_; clear w1 c1; (repeat' first | exact True.intro | refine Lf.mk ?_ ?_); all_goals intro hP)
      (refine resX ?_; try exact True.intro)
  · rw [valS_out]
    have w1 : IntKind.i64.wrap (a - b) = a - b := wrap_of (by omega) (by omega)
    have hv := hv (a - b)
    cases hd : (decide (-1000000000000 ≤ (a - b)) && decide ((a - b) ≤ 1000000000000)) with
    | true =>
      simp only [hd] at hv
      (refine ARun.intro Tryd.func32 rfl Tryd.call32 Tryd.ntmps32 Tryd.results32 ?_; simp only [List.length_cons, List.length_nil, List.length_map, Nat.reduceAdd, Nat.reduceSub, List.replicate_succ, List.replicate_zero, List.cons_append, List.nil_append])
      (have w1 := w1; have c1 := fun z1 => hv z1; refine wk ?_; clear w1 c1; (repeat' first | exact True.intro | refine Lf.mk ?_ ?_); all_goals intro hP)
      (refine resX ?_; try exact True.intro)
    | false =>
      simp only [hd] at hv
      (refine ARun.intro Tryd.func32 rfl Tryd.call32 Tryd.ntmps32 Tryd.results32 ?_; simp only [List.length_cons, List.length_nil, List.length_map, Nat.reduceAdd, Nat.reduceSub, List.replicate_succ, List.replicate_zero, List.cons_append, List.nil_append])
      (have w1 := w1; have c1 := fun z1 => hv z1; refine wk ?_; clear w1 c1; (repeat' first | exact True.intro | refine Lf.mk ?_ ?_); all_goals intro hP)
      (refine resX ?_; try exact True.intro)
  · rw [valS_out]
    skip
    have hv := hv (prodS a b)
    cases hd : (decide (-1000000000000 ≤ (prodS a b)) && decide ((prodS a b) ≤ 1000000000000)) with
    | true =>
      simp only [hd] at hv
      (refine ARun.intro Tryd.func32 rfl Tryd.call32 Tryd.ntmps32 Tryd.results32 ?_; simp only [List.length_cons, List.length_nil, List.length_map, Nat.reduceAdd, Nat.reduceSub, List.replicate_succ, List.replicate_zero, List.cons_append, List.nil_append])
      (have c1 := fun z1 => hv z1; have c2 := fun z1 => RProduct_run a b ha hb' z1; refine wk ?_; clear c1 c2; (repeat' first | exact True.intro | refine Lf.mk ?_ ?_); all_goals intro hP)
      (refine resX ?_; try exact True.intro)
    | false =>
      simp only [hd] at hv
      (refine ARun.intro Tryd.func32 rfl Tryd.call32 Tryd.ntmps32 Tryd.results32 ?_; simp only [List.length_cons, List.length_nil, List.length_map, Nat.reduceAdd, Nat.reduceSub, List.replicate_succ, List.replicate_zero, List.cons_append, List.nil_append])
      (have c1 := fun z1 => hv z1; have c2 := fun z1 => RProduct_run a b ha hb' z1; refine wk ?_; clear c1 c2; (repeat' first | exact True.intro | refine Lf.mk ?_ ?_); all_goals intro hP)
      (refine resX ?_; try exact True.intro)
  · by_cases hz : b = 0
    · rw [if_pos hz]
      (refine ARun.intro Tryd.func32 rfl Tryd.call32 Tryd.ntmps32 Tryd.results32 ?_; simp only [List.length_cons, List.length_nil, List.length_map, Nat.reduceAdd, Nat.reduceSub, List.replicate_succ, List.replicate_zero, List.cons_append, List.nil_append])
      (have w1 := hz; refine wk ?_; clear w1; (repeat' first | exact True.intro | refine Lf.mk ?_ ?_); all_goals intro hP)
      (refine resX ?_; try exact True.intro)
    rw [if_neg hz, valS_out]
    have z1 : (b == 0) = false := by simpa using hz
    have hv := hv (downS a b)
    cases hd : (decide (-1000000000000 ≤ (downS a b)) && decide ((downS a b) ≤ 1000000000000)) with
    | true =>
      simp only [hd] at hv
      (refine ARun.intro Tryd.func32 rfl Tryd.call32 Tryd.ntmps32 Tryd.results32 ?_; simp only [List.length_cons, List.length_nil, List.length_map, Nat.reduceAdd, Nat.reduceSub, List.replicate_succ, List.replicate_zero, List.cons_append, List.nil_append])
      (have w1 := z1; have w2 := hz; have c1 := fun z1 => hv z1; have c2 := fun z1 => RDown_run a b ha hz z1; refine wk ?_; clear w1 w2 c1 c2; (repeat' first | exact True.intro | refine Lf.mk ?_ ?_); all_goals intro hP)
      (refine resX ?_; try exact True.intro)
    | false =>
      simp only [hd] at hv
      (refine ARun.intro Tryd.func32 rfl Tryd.call32 Tryd.ntmps32 Tryd.results32 ?_; simp only [List.length_cons, List.length_nil, List.length_map, Nat.reduceAdd, Nat.reduceSub, List.replicate_succ, List.replicate_zero, List.cons_append, List.nil_append])
      (have w1 := z1; have w2 := hz; have c1 := fun z1 => hv z1; have c2 := fun z1 => RDown_run a b ha hz z1; refine wk ?_; clear w1 w2 c1 c2; (repeat' first | exact True.intro | refine Lf.mk ?_ ?_); all_goals intro hP)
      (refine resX ?_; try exact True.intro)
  · by_cases hz : b = 0
    · rw [if_pos hz]
      (refine ARun.intro Tryd.func32 rfl Tryd.call32 Tryd.ntmps32 Tryd.results32 ?_; simp only [List.length_cons, List.length_nil, List.length_map, Nat.reduceAdd, Nat.reduceSub, List.replicate_succ, List.replicate_zero, List.cons_append, List.nil_append])
      (have w1 := hz; refine wk ?_; clear w1; (repeat' first | exact True.intro | refine Lf.mk ?_ ?_); all_goals intro hP)
      (refine resX ?_; try exact True.intro)
    rw [if_neg hz, valS_out]
    have d1 := downS_bd (a := -a) (b := b) ⟨by omega, by omega⟩ hz
    have w1 : IntKind.i64.wrap (-a) = -a := wrap_of (by omega) (by omega)
    have w2 : IntKind.i64.wrap (-downS (-a) b) = -downS (-a) b := wrap_of (by omega) (by omega)
    have z1 : (b == 0) = false := by simpa using hz
    have hv := hv (-downS (-a) b)
    cases hd : (decide (-1000000000000 ≤ (-downS (-a) b)) && decide ((-downS (-a) b) ≤ 1000000000000)) with
    | true =>
      simp only [hd] at hv
      (refine ARun.intro Tryd.func32 rfl Tryd.call32 Tryd.ntmps32 Tryd.results32 ?_; simp only [List.length_cons, List.length_nil, List.length_map, Nat.reduceAdd, Nat.reduceSub, List.replicate_succ, List.replicate_zero, List.cons_append, List.nil_append])
      (have w1 := w1; have w2 := w2; have w3 := z1; have w4 := hz; have c1 := fun z1 => hv z1; have c2 := fun z1 => RDown_run (-a) b ⟨by omega, by omega⟩ hz z1; refine wk ?_; clear w1 w2 w3 w4 c1 c2; (repeat' first | exact True.intro | refine Lf.mk ?_ ?_); all_goals intro hP)
      (refine resX ?_; try exact True.intro)
    | false =>
      simp only [hd] at hv
      (refine ARun.intro Tryd.func32 rfl Tryd.call32 Tryd.ntmps32 Tryd.results32 ?_; simp only [List.length_cons, List.length_nil, List.length_map, Nat.reduceAdd, Nat.reduceSub, List.replicate_succ, List.replicate_zero, List.cons_append, List.nil_append])
      (have w1 := w1; have w2 := w2; have w3 := z1; have w4 := hz; have c1 := fun z1 => hv z1; have c2 := fun z1 => RDown_run (-a) b ⟨by omega, by omega⟩ hz z1; refine wk ?_; clear w1 w2 w3 w4 c1 c2; (repeat' first | exact True.intro | refine Lf.mk ?_ ?_); all_goals intro hP)
      (refine resX ?_; try exact True.intro)
  · rw [valS_out]
    skip
    have hv := hv (if b < a then b else a)
    cases hd : (decide (-1000000000000 ≤ (if b < a then b else a)) && decide ((if b < a then b else a) ≤ 1000000000000)) with
    | true =>
      simp only [hd] at hv
      (refine ARun.intro Tryd.func32 rfl Tryd.call32 Tryd.ntmps32 Tryd.results32 ?_; simp only [List.length_cons, List.length_nil, List.length_map, Nat.reduceAdd, Nat.reduceSub, List.replicate_succ, List.replicate_zero, List.cons_append, List.nil_append])
      (have c1 := fun z1 => hv z1; refine wk ?_; clear c1; (repeat' first | exact True.intro | refine Lf.mk ?_ ?_); all_goals intro hP)
      (refine resX ?_; try exact True.intro)
    | false =>
      simp only [hd] at hv
      (refine ARun.intro Tryd.func32 rfl Tryd.call32 Tryd.ntmps32 Tryd.results32 ?_; simp only [List.length_cons, List.length_nil, List.length_map, Nat.reduceAdd, Nat.reduceSub, List.replicate_succ, List.replicate_zero, List.cons_append, List.nil_append])
      (have c1 := fun z1 => hv z1; refine wk ?_; clear c1; (repeat' first | exact True.intro | refine Lf.mk ?_ ?_); all_goals intro hP)
      (refine resX ?_; try exact True.intro)
  · rw [valS_out]
    skip
    have hv := hv (if a < b then b else a)
    cases hd : (decide (-1000000000000 ≤ (if a < b then b else a)) && decide ((if a < b then b else a) ≤ 1000000000000)) with
    | true =>
      simp only [hd] at hv
      (refine ARun.intro Tryd.func32 rfl Tryd.call32 Tryd.ntmps32 Tryd.results32 ?_; simp only [List.length_cons, List.length_nil, List.length_map, Nat.reduceAdd, Nat.reduceSub, List.replicate_succ, List.replicate_zero, List.cons_append, List.nil_append])
      (have c1 := fun z1 => hv z1; refine wk ?_; clear c1; (repeat' first | exact True.intro | refine Lf.mk ?_ ?_); all_goals intro hP)
      (refine resX ?_; try exact True.intro)
    | false =>
      simp only [hd] at hv
      (refine ARun.intro Tryd.func32 rfl Tryd.call32 Tryd.ntmps32 Tryd.results32 ?_; simp only [List.length_cons, List.length_nil, List.length_map, Nat.reduceAdd, Nat.reduceSub, List.replicate_succ, List.replicate_zero, List.cons_append, List.nil_append])
      (have c1 := fun z1 => hv z1; refine wk ?_; clear c1; (repeat' first | exact True.intro | refine Lf.mk ?_ ?_); all_goals intro hP)
      (refine resX ?_; try exact True.intro)
end Go.Proofs.YtimmncjdknlegaaDoor.Y

set_option maxHeartbeats 8000000
set_option maxRecDepth 20000
set_option linter.unusedVariables false
set_option linter.unusedSimpArgs false
set_option linter.unusedSectionVars false
namespace Go.Proofs.YtimmncjdknlegaaDoor.Y
open Go.Proofs.YtimmncjdknlegaaDoor.AL Go.Proofs Go
attribute [local irreducible] AWP AWL AWG AWR AWE AWX AWO AWSeq AWSG AWSR AWSO AWSE AWSF GoodP OGW OGR OGE OGX PGW PGR PGE Wk AWLoop AWPD AWLD

abbrev rX (now : List Int) : AObj := .arr 3 1 (now.map fun v => [AV.i v])
theorem RHandler_run (l : List Ins) (vars : Int) (hv : 0 ≤ vars ∧ vars ≤ 12) (hl : l.length ≤ 2000000) (H0 : List AObj) :
    ARun Tryd.prog 26 [.rs 3 (l.map encI), .i vars] H0 (.ret (.b (verH l vars)) H0) := by
  by_cases h4 : (4000 : Int) < l.length
  · have h4' : ¬ l.length ≤ 4000 := by omega
    (refine ARun.intro Tryd.func26 rfl Tryd.call26 Tryd.ntmps26 Tryd.results26 ?_; simp only [List.length_cons, List.length_nil, List.length_map, Nat.reduceAdd, Nat.reduceSub, List.replicate_succ, List.replicate_zero, List.cons_append, List.nil_append])
    (have w1 := h4; refine wk ?_; clear w1; (repeat' first | exact True.intro | refine Lf.mk ?_ ?_); all_goals intro hP)
    (refine resX ?_; try exact True.intro)
    simp [verH, h4']
  · have h4' : l.length ≤ 4000 := by omega
    have w1 : IntKind.i64.wrap ((l.length : Int) + 1) = ((l.length + 1 : Nat) : Int) := by rw [wrap_of (by omega) (by omega)]; omega
    have w3 : ¬ ((l.length : Int) + 1 < 0) := by omega
    have hk1 : ((l.length + 1 : Nat) : Int) ≤ 281474976710656 := by omega
    have hk2 : 8 * ((l.length + 1 : Nat) : Int) ≤ 281474976710656 := by omega
    rw [verH_eq h4']
    (refine ARun.intro Tryd.func26 rfl Tryd.call26 Tryd.ntmps26 Tryd.results26 ?_; simp only [List.length_cons, List.length_nil, List.length_map, Nat.reduceAdd, Nat.reduceSub, List.replicate_succ, List.replicate_zero, List.cons_append, List.nil_append])
    repeat' (first | refine awp_seq ?_ | refine awp_block ?_ | refine awp_scope ?_ | ((first | refine awp_region_k fun Kn Kp hn hp => ?_ | refine oge_intro (by assumption) ?_) <;> (simp only [go_sem, Nat.reduceAdd, Nat.reduceSub, Nat.reduceMul, Nat.reduceLeDiff, Nat.reduceLT, Nat.reduceEqDiff, Int.reduceToNat, Int.reduceAdd, Int.reduceMul, Int.reduceSub, Int.reduceLT, Int.reduceLE, Int.reduceEq, Int.reduceNeg, Int.reduceBEq, Int.reduceBNe, ↓reduceIte, reduceCtorEq, h4, List.length_map, w1, hk1, hk2, Int.le_refl, and_self, List.length_replicate] <;> try simp (disch := omega) only [wrap_of])) | (refine hn _ _ ?_; clear hn hp Kn Kp) | (refine hp _ _ _ ?_; clear hn hp Kn Kp) | (refine awp_cond rfl (fun hb => ?_) (fun hb => ?_) <;> (try simp only [decide_eq_true_eq, decide_eq_false_iff_not, Bool.not_eq_true', Bool.not_eq_false', Bool.true_eq_false, Bool.false_eq_true, beq_iff_eq, bne_iff_ne, bne_eq_false_iff_eq, beq_eq_false_iff_ne, gt_iff_lt, ge_iff_le, Int.reduceEq, Int.reduceNe, Int.reduceLT, Int.reduceLE, ne_eq, not_true_eq_false, not_false_eq_true] at hb)) | ((first | refine awg_split (fun hb => ?_) (fun hb => ?_) | refine awsg_split (fun hb => ?_) (fun hb => ?_)) <;> have hb0 := hb <;> (try simp only [decide_eq_true_eq, decide_eq_false_iff_not, Bool.not_eq_true', Bool.not_eq_false', Bool.true_eq_false, Bool.false_eq_true, beq_iff_eq, bne_iff_ne, bne_eq_false_iff_eq, beq_eq_false_iff_ne, gt_iff_lt, ge_iff_le, Int.reduceEq, Int.reduceNe, Int.reduceLT, Int.reduceLE, ne_eq, not_true_eq_false, not_false_eq_true] at hb0) <;> (try simp only [beq_true, beq_false, Bool.not_eq_true', Bool.not_eq_false'] at hb) <;> (simp only [go_sem, Nat.reduceAdd, Nat.reduceSub, Nat.reduceMul, Nat.reduceLeDiff, Nat.reduceLT, Nat.reduceEqDiff, Int.reduceToNat, Int.reduceAdd, Int.reduceMul, Int.reduceSub, Int.reduceLT, Int.reduceLE, Int.reduceEq, Int.reduceNeg, Int.reduceBEq, Int.reduceBNe, ↓reduceIte, reduceCtorEq, h4, List.length_map, w1, hk1, hk2, Int.le_refl, and_self, List.length_replicate, hb, hb0] <;> try simp (disch := omega) only [wrap_of])) | (refine And.intro ?_ ?_) | refine awp_skip ?_ | refine awp_ret ?_ | refine awp_exit ?_ | refine awp_label ?_ | refine awloop_step ?_ | fail)
    refine awp_loop_ind (σ := Nat) (fun k => l.length + 1 - k) (fun k => 1 ≤ k ∧ k ≤ l.length + 1)
      (fun k => (.rs 3 (l.map encI) :: .i vars :: .any :: .any :: .any :: .os H0.length 0 (l.length + 1) (l.length + 1) :: .i k :: .any :: .any :: .any :: .any :: .any :: .any :: .any :: .any :: .any :: .any :: .any :: .any :: .any :: .any :: .any :: .any :: .any :: .any :: .any :: .any :: .any :: .any :: .any :: .any :: .any :: .any :: .any :: .any :: .any :: .any :: .any :: .any :: .any :: .any :: .any :: .any :: .any :: .any :: .any :: .any :: .any :: .any :: .any :: .any :: .any :: .any :: .any :: .any :: .any :: .any :: .any :: .any :: .any :: .any :: .any :: .any :: .any :: .any :: .any :: .any :: .any :: .any :: .any :: .any :: .any :: .any :: .any :: .any :: .any :: .any :: .any :: .any :: .any :: .any :: .any :: .any :: .any :: .any :: .any :: .any :: .any :: .any :: .any :: .any :: .any :: .any :: .any :: .any :: .any :: .any :: .any :: .any :: .any :: .any :: .any :: .any :: .any :: .any :: .any :: .any :: .any :: .any :: .any :: .any :: .any :: .any :: .any :: .any :: .any :: .any :: .any :: .any :: .any :: .any :: .any :: .any :: .any :: .any :: .any :: .any :: .any :: .any :: .any :: .any :: .any :: .any :: []))
      (fun k => H0 ++ [rX ((0 :: List.replicate l.length (-1)).take k ++ (List.replicate (l.length + 1) 0).drop k)]) 1 ⟨by omega, by omega⟩ ?_ ?_
    · refine Wk.fgtE ?_ (by (refine fgX ?_; try exact True.intro))
      simp [rX]
    · rintro k ⟨k1, k2⟩
      by_cases hk : k = l.length + 1
      · subst hk
        have hkl : ¬ ((l.length + 1 : Nat) : Int) ≤ l.length := by omega
        (have w1 := hkl; refine wk ?_; clear w1; (repeat' first | exact True.intro | refine Lf.mk ?_ ?_); all_goals intro hP)
        refine awp_loop_ind (σ := Nat × List Int) (fun s => l.length - s.1)
          (fun s => s.1 ≤ l.length ∧ s.2.length = l.length + 1 ∧ HsOk s.2 ∧ hLoop l.length vars l 0 (0 :: List.replicate l.length (-1)) = hLoop l.length vars (l.drop s.1) s.1 s.2)
          (fun s => (.rs 3 (l.map encI) :: .i vars :: .any :: .any :: .any :: .os H0.length 0 (l.length + 1) (l.length + 1) :: .any :: .i s.1 :: .any :: .any :: .any :: .any :: .any :: .any :: .any :: .any :: .any :: .any :: .any :: .any :: .any :: .any :: .any :: .any :: .any :: .any :: .any :: .any :: .any :: .any :: .any :: .any :: .any :: .any :: .any :: .any :: .any :: .any :: .any :: .any :: .any :: .any :: .any :: .any :: .any :: .any :: .any :: .any :: .any :: .any :: .any :: .any :: .any :: .any :: .any :: .any :: .any :: .any :: .any :: .any :: .any :: .any :: .any :: .any :: .any :: .any :: .any :: .any :: .any :: .any :: .any :: .any :: .any :: .any :: .any :: .any :: .any :: .any :: .any :: .any :: .any :: .any :: .any :: .any :: .any :: .any :: .any :: .any :: .any :: .any :: .any :: .any :: .any :: .any :: .any :: .any :: .any :: .any :: .any :: .any :: .any :: .any :: .any :: .any :: .any :: .any :: .any :: .any :: .any :: .any :: .any :: .any :: .any :: .any :: .any :: .any :: .any :: .any :: .any :: .any :: .any :: .any :: .any :: .any :: .any :: .any :: .any :: .any :: .any :: .any :: .any :: .any :: .any :: []))
          (fun s => H0 ++ [rX s.2]) (0, 0 :: List.replicate l.length (-1)) ⟨Nat.zero_le _, by simp, HsOk.start _, by simp⟩ ?_ ?_
        · refine Wk.fgtE ?_ (by (refine fgX ?_; try exact True.intro))
          simp [rX, List.take_of_length_le]
        · rintro ⟨i, hs⟩ ⟨h1, h2, h3, h5⟩
          simp only at h1 h2 h3 h5 ⊢
          obtain ⟨y, hy⟩ := get_some (hs := hs) (i := i) (by omega)
          have yb := h3.get hy
          have hy' : (hs.map fun v => [AV.i v])[i]? = some [AV.i y] := by rw [List.getElem?_map, hy]; rfl
          have hil : (i : Int) < (l.length + 1 : Nat) := by omega
          cases hr : l.drop i with
          | nil =>
            have hlt := drop_nil hr
            obtain rfl : i = l.length := by have := List.drop_eq_nil_iff.1 hr; omega
            rw [hr, hLoop_nil hy] at h5
            rw [h5]
            (have w1 := hlt; have w2 := h2; have w3 := hil; have w4 := hy'; refine wk ?_; clear w1 w2 w3 w4; (repeat' first | exact True.intro | refine Lf.mk ?_ ?_); all_goals intro hP)
            (refine resX ?_; try exact True.intro)
          | cons x rest =>
            obtain ⟨hx, hlt, hd, hm⟩ := drop_cons hr
            rw [hr, hLoop_cons] at h5
            obtain ⟨op, nn, rel⟩ := x
            have hx' : (l.map encI)[i]? = some (cI ⟨op, nn, rel⟩) := by rw [List.getElem?_map, hx]; rfl
            have hins := fun H0 => Rinstr_run op nn rel i l.length vars H0
            have hw1 : IntKind.i64.wrap ((i : Int) + 1) = ((i + 1 : Nat) : Int) := by rw [wrap_of (by omega) (by omega)]; omega
            have hi1 : ((i + 1 : Nat) : Int) < (l.length + 1 : Nat) := by omega
            cases hok : insOk ⟨op, nn, rel⟩ i l.length vars with
            | false =>
              rw [hStep_bad hy (.inr (.inl hok))] at h5
              simp only at h5
              rw [h5]
              simp only [hok] at hins
              (have w1 := hlt; have w2 := h2; have w3 := hil; have w4 := hx'; have w5 := hy'; have c1 := fun z1 => hins z1; refine wk ?_; clear w1 w2 w3 w4 w5 c1; (repeat' first | exact True.intro | refine Lf.mk ?_ ?_); all_goals intro hP)
              (refine resX ?_; try exact True.intro)
            | true =>
              simp only [hok] at hins
              have hop := insOk_op hok
              simp only at hop
              have t1 := takes_nn op
              have t2 : takes op ≤ 2 := by unfold takes; repeat' split <;> omega
              have p1 := puts_nn op
              have p2 : puts op ≤ 1 := by unfold puts; split <;> omega
              have htk := fun H0 => RTakes_run op hop H0
              by_cases hy0 : y < 0
              · rw [hStep_bad hy (.inl (by omega))] at h5
                simp only at h5
                rw [h5]
                (have w1 := hlt; have w2 := h2; have w3 := hil; have w4 := hx'; have w5 := hy'; have w6 := hy0; have c1 := fun z1 => hins z1; refine wk ?_; clear w1 w2 w3 w4 w5 w6 c1; (repeat' first | exact True.intro | refine Lf.mk ?_ ?_); all_goals intro hP)
                (refine resX ?_; try exact True.intro)
              have wy1 : IntKind.i64.wrap (y - takes op) = y - takes op := wrap_of (by omega) (by omega)
              have wy2 : IntKind.i64.wrap (y - takes op + puts op) = y - takes op + puts op := wrap_of (by omega) (by omega)
              by_cases hty : y < takes op
              · rw [hStep_bad hy (.inr (.inr hty))] at h5
                simp only at h5
                rw [h5]
                (have w1 := hlt; have w2 := h2; have w3 := hil; have w4 := hx'; have w5 := hy'; have w6 := hy0; have w7 := hty; have w8 := wy1; have w9 := wy2; have c1 := fun z1 => hins z1; have c2 := fun z1 => htk z1; refine wk ?_; clear w1 w2 w3 w4 w5 w6 w7 w8 w9 c1 c2; (repeat' first | exact True.intro | refine Lf.mk ?_ ?_); all_goals intro hP)
                (refine resX ?_; try exact True.intro)
              by_cases hdp : 64 < y - takes op + puts op
              · rw [hStep_deep hy hdp] at h5
                simp only at h5
                rw [h5]
                (have w1 := hlt; have w2 := h2; have w3 := hil; have w4 := hx'; have w5 := hy'; have w6 := hy0; have w7 := hty; have w8 := hdp; have w9 := wy1; have w10 := wy2; have c1 := fun z1 => hins z1; have c2 := fun z1 => htk z1; refine wk ?_; clear w1 w2 w3 w4 w5 w6 w7 w8 w9 w10 c1 c2; (repeat' first | exact True.intro | refine Lf.mk ?_ ?_); all_goals intro hP)
                (refine resX ?_; try exact True.intro)
              have hnb : ¬ (y = -1 ∨ insOk ⟨op, nn, rel⟩ i l.length vars = false ∨ y < takes op) := by rw [hok]; simp; omega
              have hdb : -1 ≤ y - takes op + puts op ∧ y - takes op + puts op ≤ 64 := by omega
              have hdn : 0 ≤ y - takes op + puts op := by omega
              have g12 := hStep_12 (len := l.length) (vars := vars) (x := ⟨op, nn, rel⟩) hy hnb hdp
              have g13 := hStep_13 (len := l.length) (vars := vars) (x := ⟨op, nn, rel⟩) hy hnb hdp
              have ggo := hStep_go (len := l.length) (vars := vars) (x := ⟨op, nn, rel⟩) hy hnb hdp
              have hj := insOk_jump hok
              simp only at g12 g13 ggo hj
              generalize hdd : y - takes op + puts op = d at *
              by_cases h12 : op = 12
              · subst h12
                obtain ⟨a, rfl⟩ : ∃ a : Nat, nn = a := ⟨nn.toNat, by omega⟩
                have ha : (a : Int) < (l.length + 1 : Nat) := by omega
                rw [g12 rfl, Int.toNat_natCast] at h5
                obtain ⟨y1, hy1⟩ := get_some (hs := hs) (i := a) (by simp only [h2]; omega)
                have yb1 := h3.get hy1
                have hy1' : ((hs).map fun v => [AV.i v])[a]? = some [AV.i y1] := by rw [List.getElem?_map, hy1]; rfl
                by_cases hn1 : y1 < 0
                · have hm1 : ¬ 0 ≤ y1 := by omega
                  rw [reachS_ok hy1 (.inl (by omega))] at h5
                  simp only at h5
                  have hlen2 : (hs.set a d).length = l.length + 1 := by simp [h2]
                  obtain ⟨y2, hy2⟩ := get_some (hs := hs.set a d) (i := i + 1) (by simp only [List.length_set, h2]; omega)
                  have yb2 := (h3.set a hdb).get hy2
                  have hy2' : ((hs.set a d).map fun v => [AV.i v])[i + 1]? = some [AV.i y2] := by rw [List.getElem?_map, hy2]; rfl
                  by_cases hn2 : y2 < 0
                  · have hm2 : ¬ 0 ≤ y2 := by omega
                    rw [reachS_ok hy2 (.inl (by omega))] at h5
                    simp only at h5
                    repeat' (first | refine awp_seq ?_ | refine awp_block ?_ | refine awp_scope ?_ | ((first | refine awp_region_k fun Kn Kp hn hp => ?_ | refine oge_intro (by assumption) ?_ | (show AWE _ _ _ _ _ _ _ _ _; first | refine awe_intro (hins _) ?_ | refine awe_intro (htk _) ?_) | (show AWSF _ _ _ _ _ _ _ _ _ _ _; first | refine awsf_intro (hins _) (fun hrun => ?_) | refine awsf_intro (htk _) (fun hrun => ?_)) | (show OGE _ _ _ _ _ _ _; first | refine oge_intro (hins _) ?_ | refine oge_intro (htk _) ?_) | (show AWSE _ _ _ _ _ _ _ _ _ _ _; first | refine awse_intro (hins _) (fun hrun => ?_) | refine awse_intro (htk _) (fun hrun => ?_)) | (show PGE _ _ _ _ _; first | refine pge_intro (hins _) (fun tm' => ?_) | refine pge_intro (htk _) (fun tm' => ?_))) <;> (simp only [go_sem, Nat.reduceAdd, Nat.reduceSub, Nat.reduceMul, Nat.reduceLeDiff, Nat.reduceLT, Nat.reduceEqDiff, Int.reduceToNat, Int.reduceAdd, Int.reduceMul, Int.reduceSub, Int.reduceLT, Int.reduceLE, Int.reduceEq, Int.reduceNeg, Int.reduceBEq, Int.reduceBNe, ↓reduceIte, reduceCtorEq, hdd, hlt, List.length_map, h2, hil, hx', hy', hy0, hty, hdp, wy1, wy2, hw1, hi1, Option.map_some, row_set, Int.toNat_natCast, ha, hy1', hm1, ha, List.length_set, hlen2, hy2', hm2] <;> try simp (disch := omega) only [wrap_of])) | (refine hn _ _ ?_; clear hn hp Kn Kp) | (refine hp _ _ _ ?_; clear hn hp Kn Kp) | (refine awp_cond rfl (fun hb => ?_) (fun hb => ?_) <;> (try simp only [decide_eq_true_eq, decide_eq_false_iff_not, Bool.not_eq_true', Bool.not_eq_false', Bool.true_eq_false, Bool.false_eq_true, beq_iff_eq, bne_iff_ne, bne_eq_false_iff_eq, beq_eq_false_iff_ne, gt_iff_lt, ge_iff_le, Int.reduceEq, Int.reduceNe, Int.reduceLT, Int.reduceLE, ne_eq, not_true_eq_false, not_false_eq_true] at hb)) | ((first | refine awg_split (fun hb => ?_) (fun hb => ?_) | refine awsg_split (fun hb => ?_) (fun hb => ?_)) <;> have hb0 := hb <;> (try simp only [decide_eq_true_eq, decide_eq_false_iff_not, Bool.not_eq_true', Bool.not_eq_false', Bool.true_eq_false, Bool.false_eq_true, beq_iff_eq, bne_iff_ne, bne_eq_false_iff_eq, beq_eq_false_iff_ne, gt_iff_lt, ge_iff_le, Int.reduceEq, Int.reduceNe, Int.reduceLT, Int.reduceLE, ne_eq, not_true_eq_false, not_false_eq_true] at hb0) <;> (try simp only [beq_true, beq_false, Bool.not_eq_true', Bool.not_eq_false'] at hb) <;> (simp only [go_sem, Nat.reduceAdd, Nat.reduceSub, Nat.reduceMul, Nat.reduceLeDiff, Nat.reduceLT, Nat.reduceEqDiff, Int.reduceToNat, Int.reduceAdd, Int.reduceMul, Int.reduceSub, Int.reduceLT, Int.reduceLE, Int.reduceEq, Int.reduceNeg, Int.reduceBEq, Int.reduceBNe, ↓reduceIte, reduceCtorEq, hdd, hlt, List.length_map, h2, hil, hx', hy', hy0, hty, hdp, wy1, wy2, hw1, hi1, Option.map_some, row_set, Int.toNat_natCast, ha, hy1', hm1, ha, List.length_set, hlen2, hy2', hm2, hb, hb0] <;> try simp (disch := omega) only [wrap_of])) | (refine And.intro ?_ ?_) | refine awp_skip ?_ | refine awp_ret ?_ | refine awp_exit ?_ | refine awp_label ?_ | refine awloop_step ?_ | fail)
                    refine ⟨(i + 1, (hs.set a d).set (i + 1) d), by simp only; omega, ⟨by simp only; omega, by simp [h2], (h3.set a hdb).set _ hdb, by simp only; rw [hd]; exact h5⟩, ?_⟩
                    refine Wk.keepE 1 1 (by simp) (by simp) (by intro o ho; rw [List.mem_singleton] at ho; subst ho; exact row_under) ?_
                    simp only [List.map_cons, List.map_nil, AV.low, Fgt, Nat.lt_add_one, if_true, true_or, or_true, and_true, true_and]
                  have hp2 : 0 ≤ y2 := by omega
                  by_cases hq2 : y2 = d
                  · have hqb2 : (y2 != d) = false := by simp [hq2]
                    rw [reachS_ok hy2 (.inr hq2)] at h5
                    simp only at h5
                    repeat' (first | refine awp_seq ?_ | refine awp_block ?_ | refine awp_scope ?_ | ((first | refine awp_region_k fun Kn Kp hn hp => ?_ | refine oge_intro (by assumption) ?_ | (show AWE _ _ _ _ _ _ _ _ _; first | refine awe_intro (hins _) ?_ | refine awe_intro (htk _) ?_) | (show AWSF _ _ _ _ _ _ _ _ _ _ _; first | refine awsf_intro (hins _) (fun hrun => ?_) | refine awsf_intro (htk _) (fun hrun => ?_)) | (show OGE _ _ _ _ _ _ _; first | refine oge_intro (hins _) ?_ | refine oge_intro (htk _) ?_) | (show AWSE _ _ _ _ _ _ _ _ _ _ _; first | refine awse_intro (hins _) (fun hrun => ?_) | refine awse_intro (htk _) (fun hrun => ?_)) | (show PGE _ _ _ _ _; first | refine pge_intro (hins _) (fun tm' => ?_) | refine pge_intro (htk _) (fun tm' => ?_))) <;> (simp only [go_sem, Nat.reduceAdd, Nat.reduceSub, Nat.reduceMul, Nat.reduceLeDiff, Nat.reduceLT, Nat.reduceEqDiff, Int.reduceToNat, Int.reduceAdd, Int.reduceMul, Int.reduceSub, Int.reduceLT, Int.reduceLE, Int.reduceEq, Int.reduceNeg, Int.reduceBEq, Int.reduceBNe, ↓reduceIte, reduceCtorEq, hdd, hlt, List.length_map, h2, hil, hx', hy', hy0, hty, hdp, wy1, wy2, hw1, hi1, Option.map_some, row_set, Int.toNat_natCast, ha, hy1', hm1, ha, List.length_set, hlen2, hy2', hp2, hqb2] <;> try simp (disch := omega) only [wrap_of])) | (refine hn _ _ ?_; clear hn hp Kn Kp) | (refine hp _ _ _ ?_; clear hn hp Kn Kp) | (refine awp_cond rfl (fun hb => ?_) (fun hb => ?_) <;> (try simp only [decide_eq_true_eq, decide_eq_false_iff_not, Bool.not_eq_true', Bool.not_eq_false', Bool.true_eq_false, Bool.false_eq_true, beq_iff_eq, bne_iff_ne, bne_eq_false_iff_eq, beq_eq_false_iff_ne, gt_iff_lt, ge_iff_le, Int.reduceEq, Int.reduceNe, Int.reduceLT, Int.reduceLE, ne_eq, not_true_eq_false, not_false_eq_true] at hb)) | ((first | refine awg_split (fun hb => ?_) (fun hb => ?_) | refine awsg_split (fun hb => ?_) (fun hb => ?_)) <;> have hb0 := hb <;> (try simp only [decide_eq_true_eq, decide_eq_false_iff_not, Bool.not_eq_true', Bool.not_eq_false', Bool.true_eq_false, Bool.false_eq_true, beq_iff_eq, bne_iff_ne, bne_eq_false_iff_eq, beq_eq_false_iff_ne, gt_iff_lt, ge_iff_le, Int.reduceEq, Int.reduceNe, Int.reduceLT, Int.reduceLE, ne_eq, not_true_eq_false, not_false_eq_true] at hb0) <;> (try simp only [beq_true, beq_false, Bool.not_eq_true', Bool.not_eq_false'] at hb) <;> (simp only [go_sem, Nat.reduceAdd, Nat.reduceSub, Nat.reduceMul, Nat.reduceLeDiff, Nat.reduceLT, Nat.reduceEqDiff, Int.reduceToNat, Int.reduceAdd, Int.reduceMul, Int.reduceSub, Int.reduceLT, Int.reduceLE, Int.reduceEq, Int.reduceNeg, Int.reduceBEq, Int.reduceBNe, ↓reduceIte, reduceCtorEq, hdd, hlt, List.length_map, h2, hil, hx', hy', hy0, hty, hdp, wy1, wy2, hw1, hi1, Option.map_some, row_set, Int.toNat_natCast, ha, hy1', hm1, ha, List.length_set, hlen2, hy2', hp2, hqb2, hb, hb0] <;> try simp (disch := omega) only [wrap_of])) | (refine And.intro ?_ ?_) | refine awp_skip ?_ | refine awp_ret ?_ | refine awp_exit ?_ | refine awp_label ?_ | refine awloop_step ?_ | fail)
                    refine ⟨(i + 1, (hs.set a d).set (i + 1) d), by simp only; omega, ⟨by simp only; omega, by simp [h2], (h3.set a hdb).set _ hdb, by simp only; rw [hd]; exact h5⟩, ?_⟩
                    refine Wk.keepE 1 1 (by simp) (by simp) (by intro o ho; rw [List.mem_singleton] at ho; subst ho; exact row_under) ?_
                    simp only [List.map_cons, List.map_nil, AV.low, Fgt, Nat.lt_add_one, if_true, true_or, or_true, and_true, true_and]
                  · have hqb2 : (y2 != d) = true := by simp [hq2]
                    rw [reachS_no hy2 (by omega)] at h5
                    simp only at h5
                    rw [h5]
                    repeat' (first | refine awp_seq ?_ | refine awp_block ?_ | refine awp_scope ?_ | ((first | refine awp_region_k fun Kn Kp hn hp => ?_ | refine oge_intro (by assumption) ?_ | (show AWE _ _ _ _ _ _ _ _ _; first | refine awe_intro (hins _) ?_ | refine awe_intro (htk _) ?_) | (show AWSF _ _ _ _ _ _ _ _ _ _ _; first | refine awsf_intro (hins _) (fun hrun => ?_) | refine awsf_intro (htk _) (fun hrun => ?_)) | (show OGE _ _ _ _ _ _ _; first | refine oge_intro (hins _) ?_ | refine oge_intro (htk _) ?_) | (show AWSE _ _ _ _ _ _ _ _ _ _ _; first | refine awse_intro (hins _) (fun hrun => ?_) | refine awse_intro (htk _) (fun hrun => ?_)) | (show PGE _ _ _ _ _; first | refine pge_intro (hins _) (fun tm' => ?_) | refine pge_intro (htk _) (fun tm' => ?_))) <;> (simp only [go_sem, Nat.reduceAdd, Nat.reduceSub, Nat.reduceMul, Nat.reduceLeDiff, Nat.reduceLT, Nat.reduceEqDiff, Int.reduceToNat, Int.reduceAdd, Int.reduceMul, Int.reduceSub, Int.reduceLT, Int.reduceLE, Int.reduceEq, Int.reduceNeg, Int.reduceBEq, Int.reduceBNe, ↓reduceIte, reduceCtorEq, hdd, hlt, List.length_map, h2, hil, hx', hy', hy0, hty, hdp, wy1, wy2, hw1, hi1, Option.map_some, row_set, Int.toNat_natCast, ha, hy1', hm1, ha, List.length_set, hlen2, hy2', hp2, hqb2] <;> try simp (disch := omega) only [wrap_of])) | (refine hn _ _ ?_; clear hn hp Kn Kp) | (refine hp _ _ _ ?_; clear hn hp Kn Kp) | (refine awp_cond rfl (fun hb => ?_) (fun hb => ?_) <;> (try simp only [decide_eq_true_eq, decide_eq_false_iff_not, Bool.not_eq_true', Bool.not_eq_false', Bool.true_eq_false, Bool.false_eq_true, beq_iff_eq, bne_iff_ne, bne_eq_false_iff_eq, beq_eq_false_iff_ne, gt_iff_lt, ge_iff_le, Int.reduceEq, Int.reduceNe, Int.reduceLT, Int.reduceLE, ne_eq, not_true_eq_false, not_false_eq_true] at hb)) | ((first | refine awg_split (fun hb => ?_) (fun hb => ?_) | refine awsg_split (fun hb => ?_) (fun hb => ?_)) <;> have hb0 := hb <;> (try simp only [decide_eq_true_eq, decide_eq_false_iff_not, Bool.not_eq_true', Bool.not_eq_false', Bool.true_eq_false, Bool.false_eq_true, beq_iff_eq, bne_iff_ne, bne_eq_false_iff_eq, beq_eq_false_iff_ne, gt_iff_lt, ge_iff_le, Int.reduceEq, Int.reduceNe, Int.reduceLT, Int.reduceLE, ne_eq, not_true_eq_false, not_false_eq_true] at hb0) <;> (try simp only [beq_true, beq_false, Bool.not_eq_true', Bool.not_eq_false'] at hb) <;> (simp only [go_sem, Nat.reduceAdd, Nat.reduceSub, Nat.reduceMul, Nat.reduceLeDiff, Nat.reduceLT, Nat.reduceEqDiff, Int.reduceToNat, Int.reduceAdd, Int.reduceMul, Int.reduceSub, Int.reduceLT, Int.reduceLE, Int.reduceEq, Int.reduceNeg, Int.reduceBEq, Int.reduceBNe, ↓reduceIte, reduceCtorEq, hdd, hlt, List.length_map, h2, hil, hx', hy', hy0, hty, hdp, wy1, wy2, hw1, hi1, Option.map_some, row_set, Int.toNat_natCast, ha, hy1', hm1, ha, List.length_set, hlen2, hy2', hp2, hqb2, hb, hb0] <;> try simp (disch := omega) only [wrap_of])) | (refine And.intro ?_ ?_) | refine awp_skip ?_ | refine awp_ret ?_ | refine awp_exit ?_ | refine awp_label ?_ | refine awloop_step ?_ | fail)
                    (refine resX ?_; try exact True.intro)
                have hp1 : 0 ≤ y1 := by omega
                by_cases hq1 : y1 = d
                · have hqb1 : (y1 != d) = false := by simp [hq1]
                  rw [reachS_ok hy1 (.inr hq1)] at h5
                  simp only at h5
                  have hlen2 : (hs.set a d).length = l.length + 1 := by simp [h2]
                  obtain ⟨y2, hy2⟩ := get_some (hs := hs.set a d) (i := i + 1) (by simp only [List.length_set, h2]; omega)
                  have yb2 := (h3.set a hdb).get hy2
                  have hy2' : ((hs.set a d).map fun v => [AV.i v])[i + 1]? = some [AV.i y2] := by rw [List.getElem?_map, hy2]; rfl
                  by_cases hn2 : y2 < 0
                  · have hm2 : ¬ 0 ≤ y2 := by omega
                    rw [reachS_ok hy2 (.inl (by omega))] at h5
                    simp only at h5
                    repeat' (first | refine awp_seq ?_ | refine awp_block ?_ | refine awp_scope ?_ | ((first | refine awp_region_k fun Kn Kp hn hp => ?_ | refine oge_intro (by assumption) ?_ | (show AWE _ _ _ _ _ _ _ _ _; first | refine awe_intro (hins _) ?_ | refine awe_intro (htk _) ?_) | (show AWSF _ _ _ _ _ _ _ _ _ _ _; first | refine awsf_intro (hins _) (fun hrun => ?_) | refine awsf_intro (htk _) (fun hrun => ?_)) | (show OGE _ _ _ _ _ _ _; first | refine oge_intro (hins _) ?_ | refine oge_intro (htk _) ?_) | (show AWSE _ _ _ _ _ _ _ _ _ _ _; first | refine awse_intro (hins _) (fun hrun => ?_) | refine awse_intro (htk _) (fun hrun => ?_)) | (show PGE _ _ _ _ _; first | refine pge_intro (hins _) (fun tm' => ?_) | refine pge_intro (htk _) (fun tm' => ?_))) <;> (simp only [go_sem, Nat.reduceAdd, Nat.reduceSub, Nat.reduceMul, Nat.reduceLeDiff, Nat.reduceLT, Nat.reduceEqDiff, Int.reduceToNat, Int.reduceAdd, Int.reduceMul, Int.reduceSub, Int.reduceLT, Int.reduceLE, Int.reduceEq, Int.reduceNeg, Int.reduceBEq, Int.reduceBNe, ↓reduceIte, reduceCtorEq, hdd, hlt, List.length_map, h2, hil, hx', hy', hy0, hty, hdp, wy1, wy2, hw1, hi1, Option.map_some, row_set, Int.toNat_natCast, ha, hy1', hp1, hqb1, ha, List.length_set, hlen2, hy2', hm2] <;> try simp (disch := omega) only [wrap_of])) | (refine hn _ _ ?_; clear hn hp Kn Kp) | (refine hp _ _ _ ?_; clear hn hp Kn Kp) | (refine awp_cond rfl (fun hb => ?_) (fun hb => ?_) <;> (try simp only [decide_eq_true_eq, decide_eq_false_iff_not, Bool.not_eq_true', Bool.not_eq_false', Bool.true_eq_false, Bool.false_eq_true, beq_iff_eq, bne_iff_ne, bne_eq_false_iff_eq, beq_eq_false_iff_ne, gt_iff_lt, ge_iff_le, Int.reduceEq, Int.reduceNe, Int.reduceLT, Int.reduceLE, ne_eq, not_true_eq_false, not_false_eq_true] at hb)) | ((first | refine awg_split (fun hb => ?_) (fun hb => ?_) | refine awsg_split (fun hb => ?_) (fun hb => ?_)) <;> have hb0 := hb <;> (try simp only [decide_eq_true_eq, decide_eq_false_iff_not, Bool.not_eq_true', Bool.not_eq_false', Bool.true_eq_false, Bool.false_eq_true, beq_iff_eq, bne_iff_ne, bne_eq_false_iff_eq, beq_eq_false_iff_ne, gt_iff_lt, ge_iff_le, Int.reduceEq, Int.reduceNe, Int.reduceLT, Int.reduceLE, ne_eq, not_true_eq_false, not_false_eq_true] at hb0) <;> (try simp only [beq_true, beq_false, Bool.not_eq_true', Bool.not_eq_false'] at hb) <;> (simp only [go_sem, Nat.reduceAdd, Nat.reduceSub, Nat.reduceMul, Nat.reduceLeDiff, Nat.reduceLT, Nat.reduceEqDiff, Int.reduceToNat, Int.reduceAdd, Int.reduceMul, Int.reduceSub, Int.reduceLT, Int.reduceLE, Int.reduceEq, Int.reduceNeg, Int.reduceBEq, Int.reduceBNe, ↓reduceIte, reduceCtorEq, hdd, hlt, List.length_map, h2, hil, hx', hy', hy0, hty, hdp, wy1, wy2, hw1, hi1, Option.map_some, row_set, Int.toNat_natCast, ha, hy1', hp1, hqb1, ha, List.length_set, hlen2, hy2', hm2, hb, hb0] <;> try simp (disch := omega) only [wrap_of])) | (refine And.intro ?_ ?_) | refine awp_skip ?_ | refine awp_ret ?_ | refine awp_exit ?_ | refine awp_label ?_ | refine awloop_step ?_ | fail)
                    refine ⟨(i + 1, (hs.set a d).set (i + 1) d), by simp only; omega, ⟨by simp only; omega, by simp [h2], (h3.set a hdb).set _ hdb, by simp only; rw [hd]; exact h5⟩, ?_⟩
                    refine Wk.keepE 1 1 (by simp) (by simp) (by intro o ho; rw [List.mem_singleton] at ho; subst ho; exact row_under) ?_
                    simp only [List.map_cons, List.map_nil, AV.low, Fgt, Nat.lt_add_one, if_true, true_or, or_true, and_true, true_and]
                  have hp2 : 0 ≤ y2 := by omega
                  by_cases hq2 : y2 = d
                  · have hqb2 : (y2 != d) = false := by simp [hq2]
                    rw [reachS_ok hy2 (.inr hq2)] at h5
                    simp only at h5
                    repeat' (first | refine awp_seq ?_ | refine awp_block ?_ | refine awp_scope ?_ | ((first | refine awp_region_k fun Kn Kp hn hp => ?_ | refine oge_intro (by assumption) ?_ | (show AWE _ _ _ _ _ _ _ _ _; first | refine awe_intro (hins _) ?_ | refine awe_intro (htk _) ?_) | (show AWSF _ _ _ _ _ _ _ _ _ _ _; first | refine awsf_intro (hins _) (fun hrun => ?_) | refine awsf_intro (htk _) (fun hrun => ?_)) | (show OGE _ _ _ _ _ _ _; first | refine oge_intro (hins _) ?_ | refine oge_intro (htk _) ?_) | (show AWSE _ _ _ _ _ _ _ _ _ _ _; first | refine awse_intro (hins _) (fun hrun => ?_) | refine awse_intro (htk _) (fun hrun => ?_)) | (show PGE _ _ _ _ _; first | refine pge_intro (hins _) (fun tm' => ?_) | refine pge_intro (htk _) (fun tm' => ?_))) <;> (simp only [go_sem, Nat.reduceAdd, Nat.reduceSub, Nat.reduceMul, Nat.reduceLeDiff, Nat.reduceLT, Nat.reduceEqDiff, Int.reduceToNat, Int.reduceAdd, Int.reduceMul, Int.reduceSub, Int.reduceLT, Int.reduceLE, Int.reduceEq, Int.reduceNeg, Int.reduceBEq, Int.reduceBNe, ↓reduceIte, reduceCtorEq, hdd, hlt, List.length_map, h2, hil, hx', hy', hy0, hty, hdp, wy1, wy2, hw1, hi1, Option.map_some, row_set, Int.toNat_natCast, ha, hy1', hp1, hqb1, ha, List.length_set, hlen2, hy2', hp2, hqb2] <;> try simp (disch := omega) only [wrap_of])) | (refine hn _ _ ?_; clear hn hp Kn Kp) | (refine hp _ _ _ ?_; clear hn hp Kn Kp) | (refine awp_cond rfl (fun hb => ?_) (fun hb => ?_) <;> (try simp only [decide_eq_true_eq, decide_eq_false_iff_not, Bool.not_eq_true', Bool.not_eq_false', Bool.true_eq_false, Bool.false_eq_true, beq_iff_eq, bne_iff_ne, bne_eq_false_iff_eq, beq_eq_false_iff_ne, gt_iff_lt, ge_iff_le, Int.reduceEq, Int.reduceNe, Int.reduceLT, Int.reduceLE, ne_eq, not_true_eq_false, not_false_eq_true] at hb)) | ((first | refine awg_split (fun hb => ?_) (fun hb => ?_) | refine awsg_split (fun hb => ?_) (fun hb => ?_)) <;> have hb0 := hb <;> (try simp only [decide_eq_true_eq, decide_eq_false_iff_not, Bool.not_eq_true', Bool.not_eq_false', Bool.true_eq_false, Bool.false_eq_true, beq_iff_eq, bne_iff_ne, bne_eq_false_iff_eq, beq_eq_false_iff_ne, gt_iff_lt, ge_iff_le, Int.reduceEq, Int.reduceNe, Int.reduceLT, Int.reduceLE, ne_eq, not_true_eq_false, not_false_eq_true] at hb0) <;> (try simp only [beq_true, beq_false, Bool.not_eq_true', Bool.not_eq_false'] at hb) <;> (simp only [go_sem, Nat.reduceAdd, Nat.reduceSub, Nat.reduceMul, Nat.reduceLeDiff, Nat.reduceLT, Nat.reduceEqDiff, Int.reduceToNat, Int.reduceAdd, Int.reduceMul, Int.reduceSub, Int.reduceLT, Int.reduceLE, Int.reduceEq, Int.reduceNeg, Int.reduceBEq, Int.reduceBNe, ↓reduceIte, reduceCtorEq, hdd, hlt, List.length_map, h2, hil, hx', hy', hy0, hty, hdp, wy1, wy2, hw1, hi1, Option.map_some, row_set, Int.toNat_natCast, ha, hy1', hp1, hqb1, ha, List.length_set, hlen2, hy2', hp2, hqb2, hb, hb0] <;> try simp (disch := omega) only [wrap_of])) | (refine And.intro ?_ ?_) | refine awp_skip ?_ | refine awp_ret ?_ | refine awp_exit ?_ | refine awp_label ?_ | refine awloop_step ?_ | fail)
                    refine ⟨(i + 1, (hs.set a d).set (i + 1) d), by simp only; omega, ⟨by simp only; omega, by simp [h2], (h3.set a hdb).set _ hdb, by simp only; rw [hd]; exact h5⟩, ?_⟩
                    refine Wk.keepE 1 1 (by simp) (by simp) (by intro o ho; rw [List.mem_singleton] at ho; subst ho; exact row_under) ?_
                    simp only [List.map_cons, List.map_nil, AV.low, Fgt, Nat.lt_add_one, if_true, true_or, or_true, and_true, true_and]
                  · have hqb2 : (y2 != d) = true := by simp [hq2]
                    rw [reachS_no hy2 (by omega)] at h5
                    simp only at h5
                    rw [h5]
                    repeat' (first | refine awp_seq ?_ | refine awp_block ?_ | refine awp_scope ?_ | ((first | refine awp_region_k fun Kn Kp hn hp => ?_ | refine oge_intro (by assumption) ?_ | (show AWE _ _ _ _ _ _ _ _ _; first | refine awe_intro (hins _) ?_ | refine awe_intro (htk _) ?_) | (show AWSF _ _ _ _ _ _ _ _ _ _ _; first | refine awsf_intro (hins _) (fun hrun => ?_) | refine awsf_intro (htk _) (fun hrun => ?_)) | (show OGE _ _ _ _ _ _ _; first | refine oge_intro (hins _) ?_ | refine oge_intro (htk _) ?_) | (show AWSE _ _ _ _ _ _ _ _ _ _ _; first | refine awse_intro (hins _) (fun hrun => ?_) | refine awse_intro (htk _) (fun hrun => ?_)) | (show PGE _ _ _ _ _; first | refine pge_intro (hins _) (fun tm' => ?_) | refine pge_intro (htk _) (fun tm' => ?_))) <;> (simp only [go_sem, Nat.reduceAdd, Nat.reduceSub, Nat.reduceMul, Nat.reduceLeDiff, Nat.reduceLT, Nat.reduceEqDiff, Int.reduceToNat, Int.reduceAdd, Int.reduceMul, Int.reduceSub, Int.reduceLT, Int.reduceLE, Int.reduceEq, Int.reduceNeg, Int.reduceBEq, Int.reduceBNe, ↓reduceIte, reduceCtorEq, hdd, hlt, List.length_map, h2, hil, hx', hy', hy0, hty, hdp, wy1, wy2, hw1, hi1, Option.map_some, row_set, Int.toNat_natCast, ha, hy1', hp1, hqb1, ha, List.length_set, hlen2, hy2', hp2, hqb2] <;> try simp (disch := omega) only [wrap_of])) | (refine hn _ _ ?_; clear hn hp Kn Kp) | (refine hp _ _ _ ?_; clear hn hp Kn Kp) | (refine awp_cond rfl (fun hb => ?_) (fun hb => ?_) <;> (try simp only [decide_eq_true_eq, decide_eq_false_iff_not, Bool.not_eq_true', Bool.not_eq_false', Bool.true_eq_false, Bool.false_eq_true, beq_iff_eq, bne_iff_ne, bne_eq_false_iff_eq, beq_eq_false_iff_ne, gt_iff_lt, ge_iff_le, Int.reduceEq, Int.reduceNe, Int.reduceLT, Int.reduceLE, ne_eq, not_true_eq_false, not_false_eq_true] at hb)) | ((first | refine awg_split (fun hb => ?_) (fun hb => ?_) | refine awsg_split (fun hb => ?_) (fun hb => ?_)) <;> have hb0 := hb <;> (try simp only [decide_eq_true_eq, decide_eq_false_iff_not, Bool.not_eq_true', Bool.not_eq_false', Bool.true_eq_false, Bool.false_eq_true, beq_iff_eq, bne_iff_ne, bne_eq_false_iff_eq, beq_eq_false_iff_ne, gt_iff_lt, ge_iff_le, Int.reduceEq, Int.reduceNe, Int.reduceLT, Int.reduceLE, ne_eq, not_true_eq_false, not_false_eq_true] at hb0) <;> (try simp only [beq_true, beq_false, Bool.not_eq_true', Bool.not_eq_false'] at hb) <;> (simp only [go_sem, Nat.reduceAdd, Nat.reduceSub, Nat.reduceMul, Nat.reduceLeDiff, Nat.reduceLT, Nat.reduceEqDiff, Int.reduceToNat, Int.reduceAdd, Int.reduceMul, Int.reduceSub, Int.reduceLT, Int.reduceLE, Int.reduceEq, Int.reduceNeg, Int.reduceBEq, Int.reduceBNe, ↓reduceIte, reduceCtorEq, hdd, hlt, List.length_map, h2, hil, hx', hy', hy0, hty, hdp, wy1, wy2, hw1, hi1, Option.map_some, row_set, Int.toNat_natCast, ha, hy1', hp1, hqb1, ha, List.length_set, hlen2, hy2', hp2, hqb2, hb, hb0] <;> try simp (disch := omega) only [wrap_of])) | (refine And.intro ?_ ?_) | refine awp_skip ?_ | refine awp_ret ?_ | refine awp_exit ?_ | refine awp_label ?_ | refine awloop_step ?_ | fail)
                    (refine resX ?_; try exact True.intro)
                · have hqb1 : (y1 != d) = true := by simp [hq1]
                  rw [reachS_no hy1 (by omega)] at h5
                  simp only at h5
                  rw [h5]
                  repeat' (first | refine awp_seq ?_ | refine awp_block ?_ | refine awp_scope ?_ | ((first | refine awp_region_k fun Kn Kp hn hp => ?_ | refine oge_intro (by assumption) ?_ | (show AWE _ _ _ _ _ _ _ _ _; first | refine awe_intro (hins _) ?_ | refine awe_intro (htk _) ?_) | (show AWSF _ _ _ _ _ _ _ _ _ _ _; first | refine awsf_intro (hins _) (fun hrun => ?_) | refine awsf_intro (htk _) (fun hrun => ?_)) | (show OGE _ _ _ _ _ _ _; first | refine oge_intro (hins _) ?_ | refine oge_intro (htk _) ?_) | (show AWSE _ _ _ _ _ _ _ _ _ _ _; first | refine awse_intro (hins _) (fun hrun => ?_) | refine awse_intro (htk _) (fun hrun => ?_)) | (show PGE _ _ _ _ _; first | refine pge_intro (hins _) (fun tm' => ?_) | refine pge_intro (htk _) (fun tm' => ?_))) <;> (simp only [go_sem, Nat.reduceAdd, Nat.reduceSub, Nat.reduceMul, Nat.reduceLeDiff, Nat.reduceLT, Nat.reduceEqDiff, Int.reduceToNat, Int.reduceAdd, Int.reduceMul, Int.reduceSub, Int.reduceLT, Int.reduceLE, Int.reduceEq, Int.reduceNeg, Int.reduceBEq, Int.reduceBNe, ↓reduceIte, reduceCtorEq, hdd, hlt, List.length_map, h2, hil, hx', hy', hy0, hty, hdp, wy1, wy2, hw1, hi1, Option.map_some, row_set, Int.toNat_natCast, ha, hy1', hp1, hqb1] <;> try simp (disch := omega) only [wrap_of])) | (refine hn _ _ ?_; clear hn hp Kn Kp) | (refine hp _ _ _ ?_; clear hn hp Kn Kp) | (refine awp_cond rfl (fun hb => ?_) (fun hb => ?_) <;> (try simp only [decide_eq_true_eq, decide_eq_false_iff_not, Bool.not_eq_true', Bool.not_eq_false', Bool.true_eq_false, Bool.false_eq_true, beq_iff_eq, bne_iff_ne, bne_eq_false_iff_eq, beq_eq_false_iff_ne, gt_iff_lt, ge_iff_le, Int.reduceEq, Int.reduceNe, Int.reduceLT, Int.reduceLE, ne_eq, not_true_eq_false, not_false_eq_true] at hb)) | ((first | refine awg_split (fun hb => ?_) (fun hb => ?_) | refine awsg_split (fun hb => ?_) (fun hb => ?_)) <;> have hb0 := hb <;> (try simp only [decide_eq_true_eq, decide_eq_false_iff_not, Bool.not_eq_true', Bool.not_eq_false', Bool.true_eq_false, Bool.false_eq_true, beq_iff_eq, bne_iff_ne, bne_eq_false_iff_eq, beq_eq_false_iff_ne, gt_iff_lt, ge_iff_le, Int.reduceEq, Int.reduceNe, Int.reduceLT, Int.reduceLE, ne_eq, not_true_eq_false, not_false_eq_true] at hb0) <;> (try simp only [beq_true, beq_false, Bool.not_eq_true', Bool.not_eq_false'] at hb) <;> (simp only [go_sem, Nat.reduceAdd, Nat.reduceSub, Nat.reduceMul, Nat.reduceLeDiff, Nat.reduceLT, Nat.reduceEqDiff, Int.reduceToNat, Int.reduceAdd, Int.reduceMul, Int.reduceSub, Int.reduceLT, Int.reduceLE, Int.reduceEq, Int.reduceNeg, Int.reduceBEq, Int.reduceBNe, ↓reduceIte, reduceCtorEq, hdd, hlt, List.length_map, h2, hil, hx', hy', hy0, hty, hdp, wy1, wy2, hw1, hi1, Option.map_some, row_set, Int.toNat_natCast, ha, hy1', hp1, hqb1, hb, hb0] <;> try simp (disch := omega) only [wrap_of])) | (refine And.intro ?_ ?_) | refine awp_skip ?_ | refine awp_ret ?_ | refine awp_exit ?_ | refine awp_label ?_ | refine awloop_step ?_ | fail)
                  (refine resX ?_; try exact True.intro)
              by_cases h13 : op = 13
              · subst h13
                obtain ⟨a, rfl⟩ : ∃ a : Nat, nn = a := ⟨nn.toNat, by omega⟩
                have ha : (a : Int) < (l.length + 1 : Nat) := by omega
                rw [g13 rfl, Int.toNat_natCast] at h5
                obtain ⟨y1, hy1⟩ := get_some (hs := hs) (i := a) (by simp only [h2]; omega)
                have yb1 := h3.get hy1
                have hy1' : ((hs).map fun v => [AV.i v])[a]? = some [AV.i y1] := by rw [List.getElem?_map, hy1]; rfl
                by_cases hn1 : y1 < 0
                · have hm1 : ¬ 0 ≤ y1 := by omega
                  rw [reachS_ok hy1 (.inl (by omega))] at h5
                  simp only at h5
                  repeat' (first | refine awp_seq ?_ | refine awp_block ?_ | refine awp_scope ?_ | ((first | refine awp_region_k fun Kn Kp hn hp => ?_ | refine oge_intro (by assumption) ?_ | (show AWE _ _ _ _ _ _ _ _ _; first | refine awe_intro (hins _) ?_ | refine awe_intro (htk _) ?_) | (show AWSF _ _ _ _ _ _ _ _ _ _ _; first | refine awsf_intro (hins _) (fun hrun => ?_) | refine awsf_intro (htk _) (fun hrun => ?_)) | (show OGE _ _ _ _ _ _ _; first | refine oge_intro (hins _) ?_ | refine oge_intro (htk _) ?_) | (show AWSE _ _ _ _ _ _ _ _ _ _ _; first | refine awse_intro (hins _) (fun hrun => ?_) | refine awse_intro (htk _) (fun hrun => ?_)) | (show PGE _ _ _ _ _; first | refine pge_intro (hins _) (fun tm' => ?_) | refine pge_intro (htk _) (fun tm' => ?_))) <;> (simp only [go_sem, Nat.reduceAdd, Nat.reduceSub, Nat.reduceMul, Nat.reduceLeDiff, Nat.reduceLT, Nat.reduceEqDiff, Int.reduceToNat, Int.reduceAdd, Int.reduceMul, Int.reduceSub, Int.reduceLT, Int.reduceLE, Int.reduceEq, Int.reduceNeg, Int.reduceBEq, Int.reduceBNe, ↓reduceIte, reduceCtorEq, hdd, hlt, List.length_map, h2, hil, hx', hy', hy0, hty, hdp, wy1, wy2, hw1, hi1, Option.map_some, row_set, Int.toNat_natCast, ha, hy1', hm1] <;> try simp (disch := omega) only [wrap_of])) | (refine hn _ _ ?_; clear hn hp Kn Kp) | (refine hp _ _ _ ?_; clear hn hp Kn Kp) | (refine awp_cond rfl (fun hb => ?_) (fun hb => ?_) <;> (try simp only [decide_eq_true_eq, decide_eq_false_iff_not, Bool.not_eq_true', Bool.not_eq_false', Bool.true_eq_false, Bool.false_eq_true, beq_iff_eq, bne_iff_ne, bne_eq_false_iff_eq, beq_eq_false_iff_ne, gt_iff_lt, ge_iff_le, Int.reduceEq, Int.reduceNe, Int.reduceLT, Int.reduceLE, ne_eq, not_true_eq_false, not_false_eq_true] at hb)) | ((first | refine awg_split (fun hb => ?_) (fun hb => ?_) | refine awsg_split (fun hb => ?_) (fun hb => ?_)) <;> have hb0 := hb <;> (try simp only [decide_eq_true_eq, decide_eq_false_iff_not, Bool.not_eq_true', Bool.not_eq_false', Bool.true_eq_false, Bool.false_eq_true, beq_iff_eq, bne_iff_ne, bne_eq_false_iff_eq, beq_eq_false_iff_ne, gt_iff_lt, ge_iff_le, Int.reduceEq, Int.reduceNe, Int.reduceLT, Int.reduceLE, ne_eq, not_true_eq_false, not_false_eq_true] at hb0) <;> (try simp only [beq_true, beq_false, Bool.not_eq_true', Bool.not_eq_false'] at hb) <;> (simp only [go_sem, Nat.reduceAdd, Nat.reduceSub, Nat.reduceMul, Nat.reduceLeDiff, Nat.reduceLT, Nat.reduceEqDiff, Int.reduceToNat, Int.reduceAdd, Int.reduceMul, Int.reduceSub, Int.reduceLT, Int.reduceLE, Int.reduceEq, Int.reduceNeg, Int.reduceBEq, Int.reduceBNe, ↓reduceIte, reduceCtorEq, hdd, hlt, List.length_map, h2, hil, hx', hy', hy0, hty, hdp, wy1, wy2, hw1, hi1, Option.map_some, row_set, Int.toNat_natCast, ha, hy1', hm1, hb, hb0] <;> try simp (disch := omega) only [wrap_of])) | (refine And.intro ?_ ?_) | refine awp_skip ?_ | refine awp_ret ?_ | refine awp_exit ?_ | refine awp_label ?_ | refine awloop_step ?_ | fail)
                  refine ⟨(i + 1, hs.set a d), by simp only; omega, ⟨by simp only; omega, by simp [h2], h3.set a hdb, by simp only; rw [hd]; exact h5⟩, ?_⟩
                  refine Wk.keepE 1 1 (by simp) (by simp) (by intro o ho; rw [List.mem_singleton] at ho; subst ho; exact row_under) ?_
                  simp only [List.map_cons, List.map_nil, AV.low, Fgt, Nat.lt_add_one, if_true, true_or, or_true, and_true, true_and]
                have hp1 : 0 ≤ y1 := by omega
                by_cases hq1 : y1 = d
                · have hqb1 : (y1 != d) = false := by simp [hq1]
                  rw [reachS_ok hy1 (.inr hq1)] at h5
                  simp only at h5
                  repeat' (first | refine awp_seq ?_ | refine awp_block ?_ | refine awp_scope ?_ | ((first | refine awp_region_k fun Kn Kp hn hp => ?_ | refine oge_intro (by assumption) ?_ | (show AWE _ _ _ _ _ _ _ _ _; first | refine awe_intro (hins _) ?_ | refine awe_intro (htk _) ?_) | (show AWSF _ _ _ _ _ _ _ _ _ _ _; first | refine awsf_intro (hins _) (fun hrun => ?_) | refine awsf_intro (htk _) (fun hrun => ?_)) | (show OGE _ _ _ _ _ _ _; first | refine oge_intro (hins _) ?_ | refine oge_intro (htk _) ?_) | (show AWSE _ _ _ _ _ _ _ _ _ _ _; first | refine awse_intro (hins _) (fun hrun => ?_) | refine awse_intro (htk _) (fun hrun => ?_)) | (show PGE _ _ _ _ _; first | refine pge_intro (hins _) (fun tm' => ?_) | refine pge_intro (htk _) (fun tm' => ?_))) <;> (simp only [go_sem, Nat.reduceAdd, Nat.reduceSub, Nat.reduceMul, Nat.reduceLeDiff, Nat.reduceLT, Nat.reduceEqDiff, Int.reduceToNat, Int.reduceAdd, Int.reduceMul, Int.reduceSub, Int.reduceLT, Int.reduceLE, Int.reduceEq, Int.reduceNeg, Int.reduceBEq, Int.reduceBNe, ↓reduceIte, reduceCtorEq, hdd, hlt, List.length_map, h2, hil, hx', hy', hy0, hty, hdp, wy1, wy2, hw1, hi1, Option.map_some, row_set, Int.toNat_natCast, ha, hy1', hp1, hqb1] <;> try simp (disch := omega) only [wrap_of])) | (refine hn _ _ ?_; clear hn hp Kn Kp) | (refine hp _ _ _ ?_; clear hn hp Kn Kp) | (refine awp_cond rfl (fun hb => ?_) (fun hb => ?_) <;> (try simp only [decide_eq_true_eq, decide_eq_false_iff_not, Bool.not_eq_true', Bool.not_eq_false', Bool.true_eq_false, Bool.false_eq_true, beq_iff_eq, bne_iff_ne, bne_eq_false_iff_eq, beq_eq_false_iff_ne, gt_iff_lt, ge_iff_le, Int.reduceEq, Int.reduceNe, Int.reduceLT, Int.reduceLE, ne_eq, not_true_eq_false, not_false_eq_true] at hb)) | ((first | refine awg_split (fun hb => ?_) (fun hb => ?_) | refine awsg_split (fun hb => ?_) (fun hb => ?_)) <;> have hb0 := hb <;> (try simp only [decide_eq_true_eq, decide_eq_false_iff_not, Bool.not_eq_true', Bool.not_eq_false', Bool.true_eq_false, Bool.false_eq_true, beq_iff_eq, bne_iff_ne, bne_eq_false_iff_eq, beq_eq_false_iff_ne, gt_iff_lt, ge_iff_le, Int.reduceEq, Int.reduceNe, Int.reduceLT, Int.reduceLE, ne_eq, not_true_eq_false, not_false_eq_true] at hb0) <;> (try simp only [beq_true, beq_false, Bool.not_eq_true', Bool.not_eq_false'] at hb) <;> (simp only [go_sem, Nat.reduceAdd, Nat.reduceSub, Nat.reduceMul, Nat.reduceLeDiff, Nat.reduceLT, Nat.reduceEqDiff, Int.reduceToNat, Int.reduceAdd, Int.reduceMul, Int.reduceSub, Int.reduceLT, Int.reduceLE, Int.reduceEq, Int.reduceNeg, Int.reduceBEq, Int.reduceBNe, ↓reduceIte, reduceCtorEq, hdd, hlt, List.length_map, h2, hil, hx', hy', hy0, hty, hdp, wy1, wy2, hw1, hi1, Option.map_some, row_set, Int.toNat_natCast, ha, hy1', hp1, hqb1, hb, hb0] <;> try simp (disch := omega) only [wrap_of])) | (refine And.intro ?_ ?_) | refine awp_skip ?_ | refine awp_ret ?_ | refine awp_exit ?_ | refine awp_label ?_ | refine awloop_step ?_ | fail)
                  refine ⟨(i + 1, hs.set a d), by simp only; omega, ⟨by simp only; omega, by simp [h2], h3.set a hdb, by simp only; rw [hd]; exact h5⟩, ?_⟩
                  refine Wk.keepE 1 1 (by simp) (by simp) (by intro o ho; rw [List.mem_singleton] at ho; subst ho; exact row_under) ?_
                  simp only [List.map_cons, List.map_nil, AV.low, Fgt, Nat.lt_add_one, if_true, true_or, or_true, and_true, true_and]
                · have hqb1 : (y1 != d) = true := by simp [hq1]
                  rw [reachS_no hy1 (by omega)] at h5
                  simp only at h5
                  rw [h5]
                  repeat' (first | refine awp_seq ?_ | refine awp_block ?_ | refine awp_scope ?_ | ((first | refine awp_region_k fun Kn Kp hn hp => ?_ | refine oge_intro (by assumption) ?_ | (show AWE _ _ _ _ _ _ _ _ _; first | refine awe_intro (hins _) ?_ | refine awe_intro (htk _) ?_) | (show AWSF _ _ _ _ _ _ _ _ _ _ _; first | refine awsf_intro (hins _) (fun hrun => ?_) | refine awsf_intro (htk _) (fun hrun => ?_)) | (show OGE _ _ _ _ _ _ _; first | refine oge_intro (hins _) ?_ | refine oge_intro (htk _) ?_) | (show AWSE _ _ _ _ _ _ _ _ _ _ _; first | refine awse_intro (hins _) (fun hrun => ?_) | refine awse_intro (htk _) (fun hrun => ?_)) | (show PGE _ _ _ _ _; first | refine pge_intro (hins _) (fun tm' => ?_) | refine pge_intro (htk _) (fun tm' => ?_))) <;> (simp only [go_sem, Nat.reduceAdd, Nat.reduceSub, Nat.reduceMul, Nat.reduceLeDiff, Nat.reduceLT, Nat.reduceEqDiff, Int.reduceToNat, Int.reduceAdd, Int.reduceMul, Int.reduceSub, Int.reduceLT, Int.reduceLE, Int.reduceEq, Int.reduceNeg, Int.reduceBEq, Int.reduceBNe, ↓reduceIte, reduceCtorEq, hdd, hlt, List.length_map, h2, hil, hx', hy', hy0, hty, hdp, wy1, wy2, hw1, hi1, Option.map_some, row_set, Int.toNat_natCast, ha, hy1', hp1, hqb1] <;> try simp (disch := omega) only [wrap_of])) | (refine hn _ _ ?_; clear hn hp Kn Kp) | (refine hp _ _ _ ?_; clear hn hp Kn Kp) | (refine awp_cond rfl (fun hb => ?_) (fun hb => ?_) <;> (try simp only [decide_eq_true_eq, decide_eq_false_iff_not, Bool.not_eq_true', Bool.not_eq_false', Bool.true_eq_false, Bool.false_eq_true, beq_iff_eq, bne_iff_ne, bne_eq_false_iff_eq, beq_eq_false_iff_ne, gt_iff_lt, ge_iff_le, Int.reduceEq, Int.reduceNe, Int.reduceLT, Int.reduceLE, ne_eq, not_true_eq_false, not_false_eq_true] at hb)) | ((first | refine awg_split (fun hb => ?_) (fun hb => ?_) | refine awsg_split (fun hb => ?_) (fun hb => ?_)) <;> have hb0 := hb <;> (try simp only [decide_eq_true_eq, decide_eq_false_iff_not, Bool.not_eq_true', Bool.not_eq_false', Bool.true_eq_false, Bool.false_eq_true, beq_iff_eq, bne_iff_ne, bne_eq_false_iff_eq, beq_eq_false_iff_ne, gt_iff_lt, ge_iff_le, Int.reduceEq, Int.reduceNe, Int.reduceLT, Int.reduceLE, ne_eq, not_true_eq_false, not_false_eq_true] at hb0) <;> (try simp only [beq_true, beq_false, Bool.not_eq_true', Bool.not_eq_false'] at hb) <;> (simp only [go_sem, Nat.reduceAdd, Nat.reduceSub, Nat.reduceMul, Nat.reduceLeDiff, Nat.reduceLT, Nat.reduceEqDiff, Int.reduceToNat, Int.reduceAdd, Int.reduceMul, Int.reduceSub, Int.reduceLT, Int.reduceLE, Int.reduceEq, Int.reduceNeg, Int.reduceBEq, Int.reduceBNe, ↓reduceIte, reduceCtorEq, hdd, hlt, List.length_map, h2, hil, hx', hy', hy0, hty, hdp, wy1, wy2, hw1, hi1, Option.map_some, row_set, Int.toNat_natCast, ha, hy1', hp1, hqb1, hb, hb0] <;> try simp (disch := omega) only [wrap_of])) | (refine And.intro ?_ ?_) | refine awp_skip ?_ | refine awp_ret ?_ | refine awp_exit ?_ | refine awp_label ?_ | refine awloop_step ?_ | fail)
                  (refine resX ?_; try exact True.intro)
              have e12 : (op == 12) = false := by simpa using h12
              have e13 : (op == 13) = false := by simpa using h13
              have ne13 : (op != 13) = true := by simpa using h13
              rw [ggo h12 h13] at h5
              obtain ⟨y1, hy1⟩ := get_some (hs := hs) (i := i + 1) (by simp only [h2]; omega)
              have yb1 := h3.get hy1
              have hy1' : ((hs).map fun v => [AV.i v])[i + 1]? = some [AV.i y1] := by rw [List.getElem?_map, hy1]; rfl
              by_cases hn1 : y1 < 0
              · have hm1 : ¬ 0 ≤ y1 := by omega
                rw [reachS_ok hy1 (.inl (by omega))] at h5
                simp only at h5
                repeat' (first | refine awp_seq ?_ | refine awp_block ?_ | refine awp_scope ?_ | ((first | refine awp_region_k fun Kn Kp hn hp => ?_ | refine oge_intro (by assumption) ?_ | (show AWE _ _ _ _ _ _ _ _ _; first | refine awe_intro (hins _) ?_ | refine awe_intro (htk _) ?_) | (show AWSF _ _ _ _ _ _ _ _ _ _ _; first | refine awsf_intro (hins _) (fun hrun => ?_) | refine awsf_intro (htk _) (fun hrun => ?_)) | (show OGE _ _ _ _ _ _ _; first | refine oge_intro (hins _) ?_ | refine oge_intro (htk _) ?_) | (show AWSE _ _ _ _ _ _ _ _ _ _ _; first | refine awse_intro (hins _) (fun hrun => ?_) | refine awse_intro (htk _) (fun hrun => ?_)) | (show PGE _ _ _ _ _; first | refine pge_intro (hins _) (fun tm' => ?_) | refine pge_intro (htk _) (fun tm' => ?_))) <;> (simp only [go_sem, Nat.reduceAdd, Nat.reduceSub, Nat.reduceMul, Nat.reduceLeDiff, Nat.reduceLT, Nat.reduceEqDiff, Int.reduceToNat, Int.reduceAdd, Int.reduceMul, Int.reduceSub, Int.reduceLT, Int.reduceLE, Int.reduceEq, Int.reduceNeg, Int.reduceBEq, Int.reduceBNe, ↓reduceIte, reduceCtorEq, hdd, hlt, List.length_map, h2, hil, hx', hy', hy0, hty, hdp, wy1, wy2, hw1, hi1, Option.map_some, row_set, Int.toNat_natCast, e12, e13, ne13, hy1', hm1] <;> try simp (disch := omega) only [wrap_of])) | (refine hn _ _ ?_; clear hn hp Kn Kp) | (refine hp _ _ _ ?_; clear hn hp Kn Kp) | (refine awp_cond rfl (fun hb => ?_) (fun hb => ?_) <;> (try simp only [decide_eq_true_eq, decide_eq_false_iff_not, Bool.not_eq_true', Bool.not_eq_false', Bool.true_eq_false, Bool.false_eq_true, beq_iff_eq, bne_iff_ne, bne_eq_false_iff_eq, beq_eq_false_iff_ne, gt_iff_lt, ge_iff_le, Int.reduceEq, Int.reduceNe, Int.reduceLT, Int.reduceLE, ne_eq, not_true_eq_false, not_false_eq_true] at hb)) | ((first | refine awg_split (fun hb => ?_) (fun hb => ?_) | refine awsg_split (fun hb => ?_) (fun hb => ?_)) <;> have hb0 := hb <;> (try simp only [decide_eq_true_eq, decide_eq_false_iff_not, Bool.not_eq_true', Bool.not_eq_false', Bool.true_eq_false, Bool.false_eq_true, beq_iff_eq, bne_iff_ne, bne_eq_false_iff_eq, beq_eq_false_iff_ne, gt_iff_lt, ge_iff_le, Int.reduceEq, Int.reduceNe, Int.reduceLT, Int.reduceLE, ne_eq, not_true_eq_false, not_false_eq_true] at hb0) <;> (try simp only [beq_true, beq_false, Bool.not_eq_true', Bool.not_eq_false'] at hb) <;> (simp only [go_sem, Nat.reduceAdd, Nat.reduceSub, Nat.reduceMul, Nat.reduceLeDiff, Nat.reduceLT, Nat.reduceEqDiff, Int.reduceToNat, Int.reduceAdd, Int.reduceMul, Int.reduceSub, Int.reduceLT, Int.reduceLE, Int.reduceEq, Int.reduceNeg, Int.reduceBEq, Int.reduceBNe, ↓reduceIte, reduceCtorEq, hdd, hlt, List.length_map, h2, hil, hx', hy', hy0, hty, hdp, wy1, wy2, hw1, hi1, Option.map_some, row_set, Int.toNat_natCast, e12, e13, ne13, hy1', hm1, hb, hb0] <;> try simp (disch := omega) only [wrap_of])) | (refine And.intro ?_ ?_) | refine awp_skip ?_ | refine awp_ret ?_ | refine awp_exit ?_ | refine awp_label ?_ | refine awloop_step ?_ | fail)
                refine ⟨(i + 1, hs.set (i + 1) d), by simp only; omega, ⟨by simp only; omega, by simp [h2], h3.set _ hdb, by simp only; rw [hd]; exact h5⟩, ?_⟩
                refine Wk.keepE 1 1 (by simp) (by simp) (by intro o ho; rw [List.mem_singleton] at ho; subst ho; exact row_under) ?_
                simp only [List.map_cons, List.map_nil, AV.low, Fgt, Nat.lt_add_one, if_true, true_or, or_true, and_true, true_and]
              have hp1 : 0 ≤ y1 := by omega
              by_cases hq1 : y1 = d
              · have hqb1 : (y1 != d) = false := by simp [hq1]
                rw [reachS_ok hy1 (.inr hq1)] at h5
                simp only at h5
                repeat' (first | refine awp_seq ?_ | refine awp_block ?_ | refine awp_scope ?_ | ((first | refine awp_region_k fun Kn Kp hn hp => ?_ | refine oge_intro (by assumption) ?_ | (show AWE _ _ _ _ _ _ _ _ _; first | refine awe_intro (hins _) ?_ | refine awe_intro (htk _) ?_) | (show AWSF _ _ _ _ _ _ _ _ _ _ _; first | refine awsf_intro (hins _) (fun hrun => ?_) | refine awsf_intro (htk _) (fun hrun => ?_)) | (show OGE _ _ _ _ _ _ _; first | refine oge_intro (hins _) ?_ | refine oge_intro (htk _) ?_) | (show AWSE _ _ _ _ _ _ _ _ _ _ _; first | refine awse_intro (hins _) (fun hrun => ?_) | refine awse_intro (htk _) (fun hrun => ?_)) | (show PGE _ _ _ _ _; first | refine pge_intro (hins _) (fun tm' => ?_) | refine pge_intro (htk _) (fun tm' => ?_))) <;> (simp only [go_sem, Nat.reduceAdd, Nat.reduceSub, Nat.reduceMul, Nat.reduceLeDiff, Nat.reduceLT, Nat.reduceEqDiff, Int.reduceToNat, Int.reduceAdd, Int.reduceMul, Int.reduceSub, Int.reduceLT, Int.reduceLE, Int.reduceEq, Int.reduceNeg, Int.reduceBEq, Int.reduceBNe, ↓reduceIte, reduceCtorEq, hdd, hlt, List.length_map, h2, hil, hx', hy', hy0, hty, hdp, wy1, wy2, hw1, hi1, Option.map_some, row_set, Int.toNat_natCast, e12, e13, ne13, hy1', hp1, hqb1] <;> try simp (disch := omega) only [wrap_of])) | (refine hn _ _ ?_; clear hn hp Kn Kp) | (refine hp _ _ _ ?_; clear hn hp Kn Kp) | (refine awp_cond rfl (fun hb => ?_) (fun hb => ?_) <;> (try simp only [decide_eq_true_eq, decide_eq_false_iff_not, Bool.not_eq_true', Bool.not_eq_false', Bool.true_eq_false, Bool.false_eq_true, beq_iff_eq, bne_iff_ne, bne_eq_false_iff_eq, beq_eq_false_iff_ne, gt_iff_lt, ge_iff_le, Int.reduceEq, Int.reduceNe, Int.reduceLT, Int.reduceLE, ne_eq, not_true_eq_false, not_false_eq_true] at hb)) | ((first | refine awg_split (fun hb => ?_) (fun hb => ?_) | refine awsg_split (fun hb => ?_) (fun hb => ?_)) <;> have hb0 := hb <;> (try simp only [decide_eq_true_eq, decide_eq_false_iff_not, Bool.not_eq_true', Bool.not_eq_false', Bool.true_eq_false, Bool.false_eq_true, beq_iff_eq, bne_iff_ne, bne_eq_false_iff_eq, beq_eq_false_iff_ne, gt_iff_lt, ge_iff_le, Int.reduceEq, Int.reduceNe, Int.reduceLT, Int.reduceLE, ne_eq, not_true_eq_false, not_false_eq_true] at hb0) <;> (try simp only [beq_true, beq_false, Bool.not_eq_true', Bool.not_eq_false'] at hb) <;> (simp only [go_sem, Nat.reduceAdd, Nat.reduceSub, Nat.reduceMul, Nat.reduceLeDiff, Nat.reduceLT, Nat.reduceEqDiff, Int.reduceToNat, Int.reduceAdd, Int.reduceMul, Int.reduceSub, Int.reduceLT, Int.reduceLE, Int.reduceEq, Int.reduceNeg, Int.reduceBEq, Int.reduceBNe, ↓reduceIte, reduceCtorEq, hdd, hlt, List.length_map, h2, hil, hx', hy', hy0, hty, hdp, wy1, wy2, hw1, hi1, Option.map_some, row_set, Int.toNat_natCast, e12, e13, ne13, hy1', hp1, hqb1, hb, hb0] <;> try simp (disch := omega) only [wrap_of])) | (refine And.intro ?_ ?_) | refine awp_skip ?_ | refine awp_ret ?_ | refine awp_exit ?_ | refine awp_label ?_ | refine awloop_step ?_ | fail)
                refine ⟨(i + 1, hs.set (i + 1) d), by simp only; omega, ⟨by simp only; omega, by simp [h2], h3.set _ hdb, by simp only; rw [hd]; exact h5⟩, ?_⟩
                refine Wk.keepE 1 1 (by simp) (by simp) (by intro o ho; rw [List.mem_singleton] at ho; subst ho; exact row_under) ?_
                simp only [List.map_cons, List.map_nil, AV.low, Fgt, Nat.lt_add_one, if_true, true_or, or_true, and_true, true_and]
              · have hqb1 : (y1 != d) = true := by simp [hq1]
                rw [reachS_no hy1 (by omega)] at h5
                simp only at h5
                rw [h5]
                repeat' (first | refine awp_seq ?_ | refine awp_block ?_ | refine awp_scope ?_ | ((first | refine awp_region_k fun Kn Kp hn hp => ?_ | refine oge_intro (by assumption) ?_ | (show AWE _ _ _ _ _ _ _ _ _; first | refine awe_intro (hins _) ?_ | refine awe_intro (htk _) ?_) | (show AWSF _ _ _ _ _ _ _ _ _ _ _; first | refine awsf_intro (hins _) (fun hrun => ?_) | refine awsf_intro (htk _) (fun hrun => ?_)) | (show OGE _ _ _ _ _ _ _; first | refine oge_intro (hins _) ?_ | refine oge_intro (htk _) ?_) | (show AWSE _ _ _ _ _ _ _ _ _ _ _; first | refine awse_intro (hins _) (fun hrun => ?_) | refine awse_intro (htk _) (fun hrun => ?_)) | (show PGE _ _ _ _ _; first | refine pge_intro (hins _) (fun tm' => ?_) | refine pge_intro (htk _) (fun tm' => ?_))) <;> (simp only [go_sem, Nat.reduceAdd, Nat.reduceSub, Nat.reduceMul, Nat.reduceLeDiff, Nat.reduceLT, Nat.reduceEqDiff, Int.reduceToNat, Int.reduceAdd, Int.reduceMul, Int.reduceSub, Int.reduceLT, Int.reduceLE, Int.reduceEq, Int.reduceNeg, Int.reduceBEq, Int.reduceBNe, ↓reduceIte, reduceCtorEq, hdd, hlt, List.length_map, h2, hil, hx', hy', hy0, hty, hdp, wy1, wy2, hw1, hi1, Option.map_some, row_set, Int.toNat_natCast, e12, e13, ne13, hy1', hp1, hqb1] <;> try simp (disch := omega) only [wrap_of])) | (refine hn _ _ ?_; clear hn hp Kn Kp) | (refine hp _ _ _ ?_; clear hn hp Kn Kp) | (refine awp_cond rfl (fun hb => ?_) (fun hb => ?_) <;> (try simp only [decide_eq_true_eq, decide_eq_false_iff_not, Bool.not_eq_true', Bool.not_eq_false', Bool.true_eq_false, Bool.false_eq_true, beq_iff_eq, bne_iff_ne, bne_eq_false_iff_eq, beq_eq_false_iff_ne, gt_iff_lt, ge_iff_le, Int.reduceEq, Int.reduceNe, Int.reduceLT, Int.reduceLE, ne_eq, not_true_eq_false, not_false_eq_true] at hb)) | ((first | refine awg_split (fun hb => ?_) (fun hb => ?_) | refine awsg_split (fun hb => ?_) (fun hb => ?_)) <;> have hb0 := hb <;> (try simp only [decide_eq_true_eq, decide_eq_false_iff_not, Bool.not_eq_true', Bool.not_eq_false', Bool.true_eq_false, Bool.false_eq_true, beq_iff_eq, bne_iff_ne, bne_eq_false_iff_eq, beq_eq_false_iff_ne, gt_iff_lt, ge_iff_le, Int.reduceEq, Int.reduceNe, Int.reduceLT, Int.reduceLE, ne_eq, not_true_eq_false, not_false_eq_true] at hb0) <;> (try simp only [beq_true, beq_false, Bool.not_eq_true', Bool.not_eq_false'] at hb) <;> (simp only [go_sem, Nat.reduceAdd, Nat.reduceSub, Nat.reduceMul, Nat.reduceLeDiff, Nat.reduceLT, Nat.reduceEqDiff, Int.reduceToNat, Int.reduceAdd, Int.reduceMul, Int.reduceSub, Int.reduceLT, Int.reduceLE, Int.reduceEq, Int.reduceNeg, Int.reduceBEq, Int.reduceBNe, ↓reduceIte, reduceCtorEq, hdd, hlt, List.length_map, h2, hil, hx', hy', hy0, hty, hdp, wy1, wy2, hw1, hi1, Option.map_some, row_set, Int.toNat_natCast, e12, e13, ne13, hy1', hp1, hqb1, hb, hb0] <;> try simp (disch := omega) only [wrap_of])) | (refine And.intro ?_ ?_) | refine awp_skip ?_ | refine awp_ret ?_ | refine awp_exit ?_ | refine awp_label ?_ | refine awloop_step ?_ | fail)
                (refine resX ?_; try exact True.intro)
      · have hkl : (k : Int) ≤ l.length := by omega
        have hki : (k : Int) < (l.length + 1 : Nat) := by omega
        have hw : IntKind.i64.wrap ((k : Int) + 1) = ((k + 1 : Nat) : Int) := by rw [wrap_of (by omega) (by omega)]; omega
        have hlen : ((0 :: List.replicate l.length (-1 : Int)).take k ++ (List.replicate (l.length + 1) (0 : Int)).drop k).length = l.length + 1 := by simp; omega
        have hfill := fill_step (A := 0 :: List.replicate l.length (-1 : Int)) (B := List.replicate (l.length + 1) (0 : Int)) (by simp) (k := k) (x := -1) (by obtain ⟨j, rfl⟩ : ∃ j, k = j + 1 := ⟨k - 1, by omega⟩; rw [List.getElem?_cons_succ, List.getElem?_replicate, if_pos (by omega)])
        generalize hg : (0 :: List.replicate l.length (-1 : Int)).take k ++ (List.replicate (l.length + 1) (0 : Int)).drop k = row at *
        obtain ⟨z, hz⟩ := get_some (hs := row) (i := k) (by omega)
        have hz' : (row.map fun v => [AV.i v])[k]? = some [AV.i z] := by rw [List.getElem?_map, hz]; rfl
        (have w1 := hkl; have w2 := hki; have w3 := hw; have w4 := hlen; have w5 := hz'; have w6 := @row_set; refine wk ?_; clear w1 w2 w3 w4 w5 w6; (repeat' first | exact True.intro | refine Lf.mk ?_ ?_); all_goals intro hP)
        refine ⟨k + 1, by omega, ⟨by omega, by omega⟩, ?_⟩
        refine Wk.fgtE ?_ (by (refine fgX ?_; try exact True.intro))
        rw [← hfill]
end Go.Proofs.YtimmncjdknlegaaDoor.Y

set_option maxHeartbeats 8000000
set_option maxRecDepth 20000
set_option linter.unusedVariables false
set_option linter.unusedSimpArgs false
set_option linter.unusedSectionVars false
namespace Go.Proofs.YtimmncjdknlegaaDoor.Y
open Go.Proofs.YtimmncjdknlegaaDoor.AL Go.Proofs Go
attribute [local irreducible] AWP AWL AWG AWR AWE AWX AWO AWSeq AWSG AWSR AWSO AWSE AWSF GoodP OGW OGR OGE OGX PGW PGR PGE Wk AWLoop AWPD AWLD

abbrev agC (c : Cod) : AV := .agg [.rs 3 (c.c0.map encI), .rs 3 (c.c1.map encI), .rs 3 (c.c2.map encI), .rs 3 (c.c3.map encI), .rs 3 (c.c4.map encI)]
structure CodFine (c : Cod) : Prop where
  l0 : c.c0.length ≤ 2000000
  l1 : c.c1.length ≤ 2000000
  l2 : c.c2.length ≤ 2000000
  l3 : c.c3.length ≤ 2000000
  l4 : c.c4.length ≤ 2000000
theorem RVerify_run (c : Cod) (vars : Int) (hf : CodFine c) (H0 : List AObj) :
    ARun Tryd.prog 16 [agC c, .i vars] H0 (.ret (.b (verC c vars)) H0) := by
  by_cases h0 : vars < 0
  · have h0' : ¬ 0 ≤ vars := by omega
    (refine ARun.intro Tryd.func16 rfl Tryd.call16 Tryd.ntmps16 Tryd.results16 ?_; simp only [List.length_cons, List.length_nil, List.length_map, Nat.reduceAdd, Nat.reduceSub, List.replicate_succ, List.replicate_zero, List.cons_append, List.nil_append])
    (have w1 := h0; refine wk ?_; clear w1; (repeat' first | exact True.intro | refine Lf.mk ?_ ?_); all_goals intro hP)
    (refine resX ?_; try exact True.intro)
    all_goals simp [verC, h0']
  by_cases h12 : 12 < vars
  · have h12' : ¬ vars ≤ 12 := by omega
    (refine ARun.intro Tryd.func16 rfl Tryd.call16 Tryd.ntmps16 Tryd.results16 ?_; simp only [List.length_cons, List.length_nil, List.length_map, Nat.reduceAdd, Nat.reduceSub, List.replicate_succ, List.replicate_zero, List.cons_append, List.nil_append])
    (have w1 := h0; have w2 := h12; refine wk ?_; clear w1 w2; (repeat' first | exact True.intro | refine Lf.mk ?_ ?_); all_goals intro hP)
    (refine resX ?_; try exact True.intro)
    all_goals simp [verC, h12']
  have hv : 0 ≤ vars ∧ vars ≤ 12 := by omega
  have g0 := fun H0 => RHandler_run c.c0 vars hv hf.l0 H0
  have g1 := fun H0 => RHandler_run c.c1 vars hv hf.l1 H0
  have g2 := fun H0 => RHandler_run c.c2 vars hv hf.l2 H0
  have g3 := fun H0 => RHandler_run c.c3 vars hv hf.l3 H0
  have g4 := fun H0 => RHandler_run c.c4 vars hv hf.l4 H0
  cases b0 : verH c.c0 vars with
  | false =>
    simp only [b0] at g0
    (refine ARun.intro Tryd.func16 rfl Tryd.call16 Tryd.ntmps16 Tryd.results16 ?_; simp only [List.length_cons, List.length_nil, List.length_map, Nat.reduceAdd, Nat.reduceSub, List.replicate_succ, List.replicate_zero, List.cons_append, List.nil_append])
    (have w1 := h0; have w2 := h12; refine wk ?_; clear w1 w2; (repeat' first | exact True.intro | refine Lf.mk ?_ ?_); all_goals intro hP)
    refine awp_loop 6 ?_
    (have w1 := h0; have w2 := h12; have c1 := fun z1 => g0 z1; refine wk ?_; clear w1 w2 c1; (repeat' first | exact True.intro | refine Lf.mk ?_ ?_); all_goals intro hP)
    (refine resX ?_; try exact True.intro)
    all_goals simp [verC, b0]
  | true =>
    cases b1 : verH c.c1 vars with
    | false =>
      simp only [b0, b1] at g0 g1
      (refine ARun.intro Tryd.func16 rfl Tryd.call16 Tryd.ntmps16 Tryd.results16 ?_; simp only [List.length_cons, List.length_nil, List.length_map, Nat.reduceAdd, Nat.reduceSub, List.replicate_succ, List.replicate_zero, List.cons_append, List.nil_append])
      (have w1 := h0; have w2 := h12; refine wk ?_; clear w1 w2; (repeat' first | exact True.intro | refine Lf.mk ?_ ?_); all_goals intro hP)
      refine awp_loop 6 ?_
      (have w1 := h0; have w2 := h12; have c1 := fun z1 => g0 z1; have c2 := fun z1 => g1 z1; refine wk ?_; clear w1 w2 c1 c2; (repeat' first | exact True.intro | refine Lf.mk ?_ ?_); all_goals intro hP)
      (refine resX ?_; try exact True.intro)
      all_goals simp [verC, b0, b1]
    | true =>
      cases b2 : verH c.c2 vars with
      | false =>
        simp only [b0, b1, b2] at g0 g1 g2
        (refine ARun.intro Tryd.func16 rfl Tryd.call16 Tryd.ntmps16 Tryd.results16 ?_; simp only [List.length_cons, List.length_nil, List.length_map, Nat.reduceAdd, Nat.reduceSub, List.replicate_succ, List.replicate_zero, List.cons_append, List.nil_append])
        (have w1 := h0; have w2 := h12; refine wk ?_; clear w1 w2; (repeat' first | exact True.intro | refine Lf.mk ?_ ?_); all_goals intro hP)
        refine awp_loop 6 ?_
        (have w1 := h0; have w2 := h12; have c1 := fun z1 => g0 z1; have c2 := fun z1 => g1 z1; have c3 := fun z1 => g2 z1; refine wk ?_; clear w1 w2 c1 c2 c3; (repeat' first | exact True.intro | refine Lf.mk ?_ ?_); all_goals intro hP)
        (refine resX ?_; try exact True.intro)
        all_goals simp [verC, b0, b1, b2]
      | true =>
        cases b3 : verH c.c3 vars with
        | false =>
          simp only [b0, b1, b2, b3] at g0 g1 g2 g3
          (refine ARun.intro Tryd.func16 rfl Tryd.call16 Tryd.ntmps16 Tryd.results16 ?_; simp only [List.length_cons, List.length_nil, List.length_map, Nat.reduceAdd, Nat.reduceSub, List.replicate_succ, List.replicate_zero, List.cons_append, List.nil_append])
          (have w1 := h0; have w2 := h12; refine wk ?_; clear w1 w2; (repeat' first | exact True.intro | refine Lf.mk ?_ ?_); all_goals intro hP)
          refine awp_loop 6 ?_
          (have w1 := h0; have w2 := h12; have c1 := fun z1 => g0 z1; have c2 := fun z1 => g1 z1; have c3 := fun z1 => g2 z1; have c4 := fun z1 => g3 z1; refine wk ?_; clear w1 w2 c1 c2 c3 c4; (repeat' first | exact True.intro | refine Lf.mk ?_ ?_); all_goals intro hP)
          (refine resX ?_; try exact True.intro)
          all_goals simp [verC, b0, b1, b2, b3]
        | true =>
          cases b4 : verH c.c4 vars with
          | false =>
            simp only [b0, b1, b2, b3, b4] at g0 g1 g2 g3 g4
            (refine ARun.intro Tryd.func16 rfl Tryd.call16 Tryd.ntmps16 Tryd.results16 ?_; simp only [List.length_cons, List.length_nil, List.length_map, Nat.reduceAdd, Nat.reduceSub, List.replicate_succ, List.replicate_zero, List.cons_append, List.nil_append])
            (have w1 := h0; have w2 := h12; refine wk ?_; clear w1 w2; (repeat' first | exact True.intro | refine Lf.mk ?_ ?_); all_goals intro hP)
            refine awp_loop 6 ?_
            (have w1 := h0; have w2 := h12; have c1 := fun z1 => g0 z1; have c2 := fun z1 => g1 z1; have c3 := fun z1 => g2 z1; have c4 := fun z1 => g3 z1; have c5 := fun z1 => g4 z1; refine wk ?_; clear w1 w2 c1 c2 c3 c4 c5; (repeat' first | exact True.intro | refine Lf.mk ?_ ?_); all_goals intro hP)
            (refine resX ?_; try exact True.intro)
            all_goals simp [verC, b0, b1, b2, b3, b4]
          | true =>
            simp only [b0, b1, b2, b3, b4] at g0 g1 g2 g3 g4
            (refine ARun.intro Tryd.func16 rfl Tryd.call16 Tryd.ntmps16 Tryd.results16 ?_; simp only [List.length_cons, List.length_nil, List.length_map, Nat.reduceAdd, Nat.reduceSub, List.replicate_succ, List.replicate_zero, List.cons_append, List.nil_append])
            (have w1 := h0; have w2 := h12; refine wk ?_; clear w1 w2; (repeat' first | exact True.intro | refine Lf.mk ?_ ?_); all_goals intro hP)
            refine awp_loop 6 ?_
            (have w1 := h0; have w2 := h12; have c1 := fun z1 => g0 z1; have c2 := fun z1 => g1 z1; have c3 := fun z1 => g2 z1; have c4 := fun z1 => g3 z1; have c5 := fun z1 => g4 z1; refine wk ?_; clear w1 w2 c1 c2 c3 c4 c5; (repeat' first | exact True.intro | refine Lf.mk ?_ ?_); all_goals intro hP)
            (refine resX ?_; try exact True.intro)
            all_goals simp [verC, b0, b1, b2, b3, b4, hv.1, hv.2]
end Go.Proofs.YtimmncjdknlegaaDoor.Y

set_option maxHeartbeats 8000000
set_option maxRecDepth 20000
set_option linter.unusedVariables false
set_option linter.unusedSimpArgs false
set_option linter.unusedSectionVars false
namespace Go.Proofs.YtimmncjdknlegaaDoor.Y
open Go.Proofs.YtimmncjdknlegaaDoor.AL Go.Proofs Go
attribute [local irreducible] AWP AWL AWG AWR AWE AWX AWO AWSeq AWSG AWSR AWSO AWSE AWSF GoodP OGW OGR OGE OGX PGW PGR PGE Wk AWLoop AWPD AWLD

theorem inside_run' (n low high : Int) (H0 : List AObj) :
    ARun Tryd.prog 35 [.i n, .i low, .i high] H0 (.ret (.b (decide (low ≤ n) && decide (n ≤ high))) H0) := by
  by_cases h1 : low ≤ n <;> by_cases h2 : n ≤ high <;> simp only [h1, h2, decide_true, decide_false, Bool.and_true, Bool.and_false, Bool.and_self] <;> have h1' := h1 <;> have h2' := h2 <;>
  ((refine ARun.intro Tryd.func35 rfl Tryd.call35 Tryd.ntmps35 Tryd.results35 ?_; simp only [List.length_cons, List.length_nil, List.length_map, Nat.reduceAdd, Nat.reduceSub, List.replicate_succ, List.replicate_zero, List.cons_append, List.nil_append])
   (have w1 := h1; have w2 := h2; refine wkO ?_; clear w1 w2; (repeat' first | exact True.intro | refine Lf.mk ?_ ?_); all_goals intro hP)
   (refine resX ?_; try exact True.intro))
theorem CVerify_run (c : Cod) (vars : Int) (hf : CodFine c) (H0 : List AObj) :
    ARun Tryd.prog 27 [agC c, .i vars] H0 (.ret (.b (verC c vars)) H0) := by
  have hin := fun H0 => inside_run' vars 0 12 H0
  by_cases hv : 0 ≤ vars ∧ vars ≤ 12
  · have g0 := fun H0 => handler_run c.c0 vars hv hf.l0 H0
    have g1 := fun H0 => handler_run c.c1 vars hv hf.l1 H0
    have g2 := fun H0 => handler_run c.c2 vars hv hf.l2 H0
    have g3 := fun H0 => handler_run c.c3 vars hv hf.l3 H0
    have g4 := fun H0 => handler_run c.c4 vars hv hf.l4 H0
    have hd : (decide (0 ≤ vars) && decide (vars ≤ 12)) = true := by simp [hv]
    simp only [hd] at hin
    (refine ARun.intro Tryd.func27 rfl Tryd.call27 Tryd.ntmps27 Tryd.results27 ?_; simp only [List.length_cons, List.length_nil, List.length_map, Nat.reduceAdd, Nat.reduceSub, List.replicate_succ, List.replicate_zero, List.cons_append, List.nil_append])
    (have c1 := fun z1 => hin z1; refine wk ?_; clear c1; (repeat' first | exact True.intro | refine Lf.mk ?_ ?_); all_goals intro hP)
    refine awp_loop 6 ?_
    (have c1 := fun z1 => g0 z1; have c2 := fun z1 => g1 z1; have c3 := fun z1 => g2 z1; have c4 := fun z1 => g3 z1; have c5 := fun z1 => g4 z1; refine wk ?_; clear c1 c2 c3 c4 c5; (repeat' first | exact True.intro | refine Lf.mk ?_ ?_); all_goals intro hP)
    all_goals ((refine resX ?_; try exact True.intro); simp_all [verC])
  · have hd : (decide (0 ≤ vars) && decide (vars ≤ 12)) = false := by simp; omega
    have hd' : decide (0 ≤ vars ∧ vars ≤ 12) = false := by simp; omega
    simp only [hd] at hin
    (refine ARun.intro Tryd.func27 rfl Tryd.call27 Tryd.ntmps27 Tryd.results27 ?_; simp only [List.length_cons, List.length_nil, List.length_map, Nat.reduceAdd, Nat.reduceSub, List.replicate_succ, List.replicate_zero, List.cons_append, List.nil_append])
    (have c1 := fun z1 => hin z1; refine wk ?_; clear c1; (repeat' first | exact True.intro | refine Lf.mk ?_ ?_); all_goals intro hP)
    refine awp_loop 6 ?_
    (refine wk ?_; (repeat' first | exact True.intro | refine Lf.mk ?_ ?_); all_goals intro hP)
    (refine resX ?_; try exact True.intro)
    simp [verC, hd']
end Go.Proofs.YtimmncjdknlegaaDoor.Y

set_option maxHeartbeats 8000000
set_option maxRecDepth 20000
set_option linter.unusedVariables false
set_option linter.unusedSimpArgs false
set_option linter.unusedSectionVars false
namespace Go.Proofs.YtimmncjdknlegaaDoor.Y
open Go.Proofs.YtimmncjdknlegaaDoor.AL Go.Proofs Go
attribute [local irreducible] AWP AWL AWG AWR AWE AWX AWO AWSeq AWSG AWSR AWSO AWSE AWSF GoodP OGW OGR OGE OGX PGW PGR PGE Wk AWLoop AWPD AWLD

def shortS (c : Cod) (n : Int) : Bool := decide ((c.c0.length : Int) ≤ n) && (decide ((c.c1.length : Int) ≤ n) && (decide ((c.c2.length : Int) ≤ n) && (decide ((c.c3.length : Int) ≤ n) && decide ((c.c4.length : Int) ≤ n))))
theorem RShort_run (c : Cod) (n : Int) (H0 : List AObj) :
    ARun Tryd.prog 8 [agC c, .i n] H0 (.ret (.b (shortS c n)) H0) := by
  by_cases b0 : n < c.c0.length
  · have a0 : ¬ (c.c0.length : Int) ≤ n := by omega
    (refine ARun.intro Tryd.func8 rfl Tryd.call8 Tryd.ntmps8 Tryd.results8 ?_; simp only [List.length_cons, List.length_nil, List.length_map, Nat.reduceAdd, Nat.reduceSub, List.replicate_succ, List.replicate_zero, List.cons_append, List.nil_append])
    (refine wk ?_; (repeat' first | exact True.intro | refine Lf.mk ?_ ?_); all_goals intro hP)
    refine awp_loop 6 ?_
    (have w1 := b0; refine wk ?_; clear w1; (repeat' first | exact True.intro | refine Lf.mk ?_ ?_); all_goals intro hP)
    (refine resX ?_; try exact True.intro)
    all_goals simp [shortS, a0]
  by_cases b1 : n < c.c1.length
  · have a1 : ¬ (c.c1.length : Int) ≤ n := by omega
    (refine ARun.intro Tryd.func8 rfl Tryd.call8 Tryd.ntmps8 Tryd.results8 ?_; simp only [List.length_cons, List.length_nil, List.length_map, Nat.reduceAdd, Nat.reduceSub, List.replicate_succ, List.replicate_zero, List.cons_append, List.nil_append])
    (refine wk ?_; (repeat' first | exact True.intro | refine Lf.mk ?_ ?_); all_goals intro hP)
    refine awp_loop 6 ?_
    (have w1 := b0; have w2 := b1; refine wk ?_; clear w1 w2; (repeat' first | exact True.intro | refine Lf.mk ?_ ?_); all_goals intro hP)
    (refine resX ?_; try exact True.intro)
    all_goals simp [shortS, a1]
  by_cases b2 : n < c.c2.length
  · have a2 : ¬ (c.c2.length : Int) ≤ n := by omega
    (refine ARun.intro Tryd.func8 rfl Tryd.call8 Tryd.ntmps8 Tryd.results8 ?_; simp only [List.length_cons, List.length_nil, List.length_map, Nat.reduceAdd, Nat.reduceSub, List.replicate_succ, List.replicate_zero, List.cons_append, List.nil_append])
    (refine wk ?_; (repeat' first | exact True.intro | refine Lf.mk ?_ ?_); all_goals intro hP)
    refine awp_loop 6 ?_
    (have w1 := b0; have w2 := b1; have w3 := b2; refine wk ?_; clear w1 w2 w3; (repeat' first | exact True.intro | refine Lf.mk ?_ ?_); all_goals intro hP)
    (refine resX ?_; try exact True.intro)
    all_goals simp [shortS, a2]
  by_cases b3 : n < c.c3.length
  · have a3 : ¬ (c.c3.length : Int) ≤ n := by omega
    (refine ARun.intro Tryd.func8 rfl Tryd.call8 Tryd.ntmps8 Tryd.results8 ?_; simp only [List.length_cons, List.length_nil, List.length_map, Nat.reduceAdd, Nat.reduceSub, List.replicate_succ, List.replicate_zero, List.cons_append, List.nil_append])
    (refine wk ?_; (repeat' first | exact True.intro | refine Lf.mk ?_ ?_); all_goals intro hP)
    refine awp_loop 6 ?_
    (have w1 := b0; have w2 := b1; have w3 := b2; have w4 := b3; refine wk ?_; clear w1 w2 w3 w4; (repeat' first | exact True.intro | refine Lf.mk ?_ ?_); all_goals intro hP)
    (refine resX ?_; try exact True.intro)
    all_goals simp [shortS, a3]
  by_cases b4 : n < c.c4.length
  · have a4 : ¬ (c.c4.length : Int) ≤ n := by omega
    (refine ARun.intro Tryd.func8 rfl Tryd.call8 Tryd.ntmps8 Tryd.results8 ?_; simp only [List.length_cons, List.length_nil, List.length_map, Nat.reduceAdd, Nat.reduceSub, List.replicate_succ, List.replicate_zero, List.cons_append, List.nil_append])
    (refine wk ?_; (repeat' first | exact True.intro | refine Lf.mk ?_ ?_); all_goals intro hP)
    refine awp_loop 6 ?_
    (have w1 := b0; have w2 := b1; have w3 := b2; have w4 := b3; have w5 := b4; refine wk ?_; clear w1 w2 w3 w4 w5; (repeat' first | exact True.intro | refine Lf.mk ?_ ?_); all_goals intro hP)
    (refine resX ?_; try exact True.intro)
    all_goals simp [shortS, a4]
  have a0 : (c.c0.length : Int) ≤ n := by omega
  have a1 : (c.c1.length : Int) ≤ n := by omega
  have a2 : (c.c2.length : Int) ≤ n := by omega
  have a3 : (c.c3.length : Int) ≤ n := by omega
  have a4 : (c.c4.length : Int) ≤ n := by omega
  (refine ARun.intro Tryd.func8 rfl Tryd.call8 Tryd.ntmps8 Tryd.results8 ?_; simp only [List.length_cons, List.length_nil, List.length_map, Nat.reduceAdd, Nat.reduceSub, List.replicate_succ, List.replicate_zero, List.cons_append, List.nil_append])
  (refine wk ?_; (repeat' first | exact True.intro | refine Lf.mk ?_ ?_); all_goals intro hP)
  refine awp_loop 6 ?_
  (have w1 := b0; have w2 := b1; have w3 := b2; have w4 := b3; have w5 := b4; refine wk ?_; clear w1 w2 w3 w4 w5; (repeat' first | exact True.intro | refine Lf.mk ?_ ?_); all_goals intro hP)
  (refine resX ?_; try exact True.intro)
  all_goals simp [shortS, a0, a1, a2, a3, a4]
end Go.Proofs.YtimmncjdknlegaaDoor.Y

set_option maxHeartbeats 8000000
set_option maxRecDepth 20000
set_option linter.unusedVariables false
set_option linter.unusedSimpArgs false
set_option linter.unusedSectionVars false
namespace Go.Proofs.YtimmncjdknlegaaDoor.Y
open Go.Proofs.YtimmncjdknlegaaDoor.AL Go.Proofs Go
attribute [local irreducible] AWP AWL AWG AWR AWE AWX AWO AWSeq AWSG AWSR AWSO AWSE AWSF GoodP OGW OGR OGE OGX PGW PGR PGE Wk AWLoop AWPD AWLD

theorem Ints_run (a b : List Int) (hl : a.length ≤ 2000000) (H0 : List AObj) :
    ARun Tryd.prog 13 [.rs 1 (rI a), .rs 1 (rI b)] H0 (.ret (.b (a == b)) H0) := by
  by_cases hlen : a.length = b.length
  · have hlb : ((a.length : Int) != (b.length : Int)) = false := by simp [hlen]
    have e0 : (a == b) = (a.drop 0 == b.drop 0) := rfl
    (refine ARun.intro Tryd.func13 rfl Tryd.call13 Tryd.ntmps13 Tryd.results13 ?_; simp only [List.length_cons, List.length_nil, List.length_map, Nat.reduceAdd, Nat.reduceSub, List.replicate_succ, List.replicate_zero, List.cons_append, List.nil_append])
    repeat' (first | refine awp_seq ?_ | refine awp_block ?_ | refine awp_scope ?_ | ((first | refine awp_region_k fun Kn Kp hn hp => ?_ | show AWP _ _ (Code.region 6 _ true) _ _ _; refine awp_drawn_k (id := 6) [] [] [.win [0], .win [0], .win [0], .win [0], .win [0], .win [0], .win [0], .win [0], .win [0]] 0 rfl (by as_aux_lemma => kernel_rfl) fun Kn Kp hn hp => ?_ | refine oge_intro (by assumption) ?_) <;> (simp only [go_sem, Nat.reduceAdd, Nat.reduceSub, Nat.reduceMul, Nat.reduceLeDiff, Nat.reduceLT, Nat.reduceEqDiff, Int.reduceToNat, Int.reduceAdd, Int.reduceMul, Int.reduceSub, Int.reduceLT, Int.reduceLE, Int.reduceEq, Int.reduceNeg, Int.reduceBEq, Int.reduceBNe, ↓reduceIte, reduceCtorEq, List.length_map, hlb] <;> try simp (disch := omega) only [wrap_of])) | (refine hn _ _ ?_; clear hn hp Kn Kp) | (refine hp _ _ _ ?_; clear hn hp Kn Kp) | (refine awp_cond rfl (fun hb => ?_) (fun hb => ?_) <;> (try simp only [decide_eq_true_eq, decide_eq_false_iff_not, Bool.not_eq_true', Bool.not_eq_false', Bool.true_eq_false, Bool.false_eq_true, beq_iff_eq, bne_iff_ne, bne_eq_false_iff_eq, beq_eq_false_iff_ne, gt_iff_lt, ge_iff_le, Int.reduceEq, Int.reduceNe, Int.reduceLT, Int.reduceLE, ne_eq, not_true_eq_false, not_false_eq_true] at hb)) | ((first | refine awg_split (fun hb => ?_) (fun hb => ?_) | refine awsg_split (fun hb => ?_) (fun hb => ?_)) <;> have hb0 := hb <;> (try simp only [decide_eq_true_eq, decide_eq_false_iff_not, Bool.not_eq_true', Bool.not_eq_false', Bool.true_eq_false, Bool.false_eq_true, beq_iff_eq, bne_iff_ne, bne_eq_false_iff_eq, beq_eq_false_iff_ne, gt_iff_lt, ge_iff_le, Int.reduceEq, Int.reduceNe, Int.reduceLT, Int.reduceLE, ne_eq, not_true_eq_false, not_false_eq_true] at hb0) <;> (try simp only [beq_true, beq_false, Bool.not_eq_true', Bool.not_eq_false'] at hb) <;> (simp only [go_sem, Nat.reduceAdd, Nat.reduceSub, Nat.reduceMul, Nat.reduceLeDiff, Nat.reduceLT, Nat.reduceEqDiff, Int.reduceToNat, Int.reduceAdd, Int.reduceMul, Int.reduceSub, Int.reduceLT, Int.reduceLE, Int.reduceEq, Int.reduceNeg, Int.reduceBEq, Int.reduceBNe, ↓reduceIte, reduceCtorEq, List.length_map, hlb, hb, hb0] <;> try simp (disch := omega) only [wrap_of])) | (refine And.intro ?_ ?_) | refine awp_skip ?_ | refine awp_ret ?_ | refine awp_exit ?_ | refine awp_label ?_ | refine awloop_step ?_ | fail)
    refine awp_loop_ind (σ := Nat) (fun s => a.length - s) (fun s => s ≤ a.length ∧ (a == b) = (a.drop s == b.drop s))
      (fun s => (.rs 1 (rI a) :: .rs 1 (rI b) :: .any :: .any :: .any :: .i s :: .any :: .any :: .any :: .any :: .any :: .any :: .any :: .any :: .any :: .any :: .any :: .any :: .any :: .any :: .any :: .any :: .any :: .any :: .any :: .any :: []))
      (fun s => H0) 0 ⟨Nat.zero_le _, by simp⟩ (by (refine fgtX ?_; try exact True.intro)) ?_
    rintro i ⟨h1, h4⟩
    cases hr : a.drop i with
    | nil =>
      have hlt := drop_nil hr
      have hrb : b.drop i = [] := by rw [List.drop_eq_nil_iff] at hr ⊢; omega
      rw [hr, hrb] at h4
      rw [h4]
      repeat' (first | refine awp_seq ?_ | refine awp_block ?_ | refine awp_scope ?_ | ((first | refine awp_region_k fun Kn Kp hn hp => ?_ | show AWP _ _ (Code.region 6 _ true) _ _ _; refine awp_drawn_k (id := 6) [] [] [.win [0], .win [0], .win [0], .win [0], .win [0], .win [0], .win [0], .win [0], .win [0]] 0 rfl (by as_aux_lemma => kernel_rfl) fun Kn Kp hn hp => ?_ | refine oge_intro (by assumption) ?_) <;> (simp only [go_sem, Nat.reduceAdd, Nat.reduceSub, Nat.reduceMul, Nat.reduceLeDiff, Nat.reduceLT, Nat.reduceEqDiff, Int.reduceToNat, Int.reduceAdd, Int.reduceMul, Int.reduceSub, Int.reduceLT, Int.reduceLE, Int.reduceEq, Int.reduceNeg, Int.reduceBEq, Int.reduceBNe, ↓reduceIte, reduceCtorEq, hlt, List.length_map] <;> try simp (disch := omega) only [wrap_of])) | (refine hn _ _ ?_; clear hn hp Kn Kp) | (refine hp _ _ _ ?_; clear hn hp Kn Kp) | (refine awp_cond rfl (fun hb => ?_) (fun hb => ?_) <;> (try simp only [decide_eq_true_eq, decide_eq_false_iff_not, Bool.not_eq_true', Bool.not_eq_false', Bool.true_eq_false, Bool.false_eq_true, beq_iff_eq, bne_iff_ne, bne_eq_false_iff_eq, beq_eq_false_iff_ne, gt_iff_lt, ge_iff_le, Int.reduceEq, Int.reduceNe, Int.reduceLT, Int.reduceLE, ne_eq, not_true_eq_false, not_false_eq_true] at hb)) | ((first | refine awg_split (fun hb => ?_) (fun hb => ?_) | refine awsg_split (fun hb => ?_) (fun hb => ?_)) <;> have hb0 := hb <;> (try simp only [decide_eq_true_eq, decide_eq_false_iff_not, Bool.not_eq_true', Bool.not_eq_false', Bool.true_eq_false, Bool.false_eq_true, beq_iff_eq, bne_iff_ne, bne_eq_false_iff_eq, beq_eq_false_iff_ne, gt_iff_lt, ge_iff_le, Int.reduceEq, Int.reduceNe, Int.reduceLT, Int.reduceLE, ne_eq, not_true_eq_false, not_false_eq_true] at hb0) <;> (try simp only [beq_true, beq_false, Bool.not_eq_true', Bool.not_eq_false'] at hb) <;> (simp only [go_sem, Nat.reduceAdd, Nat.reduceSub, Nat.reduceMul, Nat.reduceLeDiff, Nat.reduceLT, Nat.reduceEqDiff, Int.reduceToNat, Int.reduceAdd, Int.reduceMul, Int.reduceSub, Int.reduceLT, Int.reduceLE, Int.reduceEq, Int.reduceNeg, Int.reduceBEq, Int.reduceBNe, ↓reduceIte, reduceCtorEq, hlt, List.length_map, hb, hb0] <;> try simp (disch := omega) only [wrap_of])) | (refine And.intro ?_ ?_) | refine awp_skip ?_ | refine awp_ret ?_ | refine awp_exit ?_ | refine awp_label ?_ | refine awloop_step ?_ | fail)
      (refine resX ?_; try exact True.intro)
    | cons x rest =>
      obtain ⟨hx, hlt, hd, hm⟩ := drop_cons hr
      have hib : i < b.length := by omega
      have hltb : (i : Int) < b.length := by omega
      obtain ⟨y, hy⟩ := get_some (hs := b) (i := i) hib
      have hrb : b.drop i = y :: b.drop (i + 1) := by rw [List.drop_eq_getElem_cons hib]; congr 1; rw [List.getElem?_eq_getElem hib] at hy; exact Option.some.inj hy
      have hx' : (rI a)[i]? = some [.i x] := by rw [List.getElem?_map, hx]; rfl
      have hy' : (rI b)[i]? = some [.i y] := by rw [List.getElem?_map, hy]; rfl
      have hw : IntKind.i64.wrap ((i : Int) + 1) = ((i + 1 : Nat) : Int) := by rw [wrap_of (by omega) (by omega)]; omega
      rw [hr, hrb, List.cons_beq_cons] at h4
      by_cases hxy : x = y
      · subst hxy
        rw [beq_self_eq_true, Bool.true_and, ← hd] at h4
        repeat' (first | refine awp_seq ?_ | refine awp_block ?_ | refine awp_scope ?_ | ((first | refine awp_region_k fun Kn Kp hn hp => ?_ | show AWP _ _ (Code.region 6 _ true) _ _ _; refine awp_drawn_k (id := 6) [] [] [.win [0], .win [0], .win [0], .win [0], .win [0], .win [0], .win [0], .win [0], .win [0]] 0 rfl (by as_aux_lemma => kernel_rfl) fun Kn Kp hn hp => ?_ | refine oge_intro (by assumption) ?_) <;> (simp only [go_sem, Nat.reduceAdd, Nat.reduceSub, Nat.reduceMul, Nat.reduceLeDiff, Nat.reduceLT, Nat.reduceEqDiff, Int.reduceToNat, Int.reduceAdd, Int.reduceMul, Int.reduceSub, Int.reduceLT, Int.reduceLE, Int.reduceEq, Int.reduceNeg, Int.reduceBEq, Int.reduceBNe, ↓reduceIte, reduceCtorEq, hlt, hltb, List.length_map, hx', hy', hx, hy, hw, Option.map_some, bne_self_eq_false] <;> try simp (disch := omega) only [wrap_of])) | (refine hn _ _ ?_; clear hn hp Kn Kp) | (refine hp _ _ _ ?_; clear hn hp Kn Kp) | (refine awp_cond rfl (fun hb => ?_) (fun hb => ?_) <;> (try simp only [decide_eq_true_eq, decide_eq_false_iff_not, Bool.not_eq_true', Bool.not_eq_false', Bool.true_eq_false, Bool.false_eq_true, beq_iff_eq, bne_iff_ne, bne_eq_false_iff_eq, beq_eq_false_iff_ne, gt_iff_lt, ge_iff_le, Int.reduceEq, Int.reduceNe, Int.reduceLT, Int.reduceLE, ne_eq, not_true_eq_false, not_false_eq_true] at hb)) | ((first | refine awg_split (fun hb => ?_) (fun hb => ?_) | refine awsg_split (fun hb => ?_) (fun hb => ?_)) <;> have hb0 := hb <;> (try simp only [decide_eq_true_eq, decide_eq_false_iff_not, Bool.not_eq_true', Bool.not_eq_false', Bool.true_eq_false, Bool.false_eq_true, beq_iff_eq, bne_iff_ne, bne_eq_false_iff_eq, beq_eq_false_iff_ne, gt_iff_lt, ge_iff_le, Int.reduceEq, Int.reduceNe, Int.reduceLT, Int.reduceLE, ne_eq, not_true_eq_false, not_false_eq_true] at hb0) <;> (try simp only [beq_true, beq_false, Bool.not_eq_true', Bool.not_eq_false'] at hb) <;> (simp only [go_sem, Nat.reduceAdd, Nat.reduceSub, Nat.reduceMul, Nat.reduceLeDiff, Nat.reduceLT, Nat.reduceEqDiff, Int.reduceToNat, Int.reduceAdd, Int.reduceMul, Int.reduceSub, Int.reduceLT, Int.reduceLE, Int.reduceEq, Int.reduceNeg, Int.reduceBEq, Int.reduceBNe, ↓reduceIte, reduceCtorEq, hlt, hltb, List.length_map, hx', hy', hx, hy, hw, Option.map_some, bne_self_eq_false, hb, hb0] <;> try simp (disch := omega) only [wrap_of])) | (refine And.intro ?_ ?_) | refine awp_skip ?_ | refine awp_ret ?_ | refine awp_exit ?_ | refine awp_label ?_ | refine awloop_step ?_ | (simp only [go_sem, Nat.reduceAdd, Nat.reduceSub, Nat.reduceMul, Nat.reduceLeDiff, Nat.reduceLT, Nat.reduceEqDiff, Int.reduceToNat, Int.reduceAdd, Int.reduceMul, Int.reduceSub, Int.reduceLT, Int.reduceLE, Int.reduceEq, Int.reduceNeg, Int.reduceBEq, Int.reduceBNe, ↓reduceIte, reduceCtorEq, hlt, hltb, List.length_map, hx', hy', hx, hy, hw, Option.map_some, bne_self_eq_false]) | fail)
        refine ⟨i + 1, by omega, ⟨by omega, h4⟩, ?_⟩
        (refine fgtX ?_; try exact True.intro)
      · have hxb : (x != y) = true := by simpa using hxy
        have hxb' : (x == y) = false := by simpa using hxy
        rw [hxb', Bool.false_and] at h4
        rw [h4]
        repeat' (first | refine awp_seq ?_ | refine awp_block ?_ | refine awp_scope ?_ | ((first | refine awp_region_k fun Kn Kp hn hp => ?_ | show AWP _ _ (Code.region 6 _ true) _ _ _; refine awp_drawn_k (id := 6) [] [] [.win [0], .win [0], .win [0], .win [0], .win [0], .win [0], .win [0], .win [0], .win [0]] 0 rfl (by as_aux_lemma => kernel_rfl) fun Kn Kp hn hp => ?_ | refine oge_intro (by assumption) ?_) <;> (simp only [go_sem, Nat.reduceAdd, Nat.reduceSub, Nat.reduceMul, Nat.reduceLeDiff, Nat.reduceLT, Nat.reduceEqDiff, Int.reduceToNat, Int.reduceAdd, Int.reduceMul, Int.reduceSub, Int.reduceLT, Int.reduceLE, Int.reduceEq, Int.reduceNeg, Int.reduceBEq, Int.reduceBNe, ↓reduceIte, reduceCtorEq, hlt, hltb, List.length_map, hx', hy', hx, hy, hw, Option.map_some, hxb] <;> try simp (disch := omega) only [wrap_of])) | (refine hn _ _ ?_; clear hn hp Kn Kp) | (refine hp _ _ _ ?_; clear hn hp Kn Kp) | (refine awp_cond rfl (fun hb => ?_) (fun hb => ?_) <;> (try simp only [decide_eq_true_eq, decide_eq_false_iff_not, Bool.not_eq_true', Bool.not_eq_false', Bool.true_eq_false, Bool.false_eq_true, beq_iff_eq, bne_iff_ne, bne_eq_false_iff_eq, beq_eq_false_iff_ne, gt_iff_lt, ge_iff_le, Int.reduceEq, Int.reduceNe, Int.reduceLT, Int.reduceLE, ne_eq, not_true_eq_false, not_false_eq_true] at hb)) | ((first | refine awg_split (fun hb => ?_) (fun hb => ?_) | refine awsg_split (fun hb => ?_) (fun hb => ?_)) <;> have hb0 := hb <;> (try simp only [decide_eq_true_eq, decide_eq_false_iff_not, Bool.not_eq_true', Bool.not_eq_false', Bool.true_eq_false, Bool.false_eq_true, beq_iff_eq, bne_iff_ne, bne_eq_false_iff_eq, beq_eq_false_iff_ne, gt_iff_lt, ge_iff_le, Int.reduceEq, Int.reduceNe, Int.reduceLT, Int.reduceLE, ne_eq, not_true_eq_false, not_false_eq_true] at hb0) <;> (try simp only [beq_true, beq_false, Bool.not_eq_true', Bool.not_eq_false'] at hb) <;> (simp only [go_sem, Nat.reduceAdd, Nat.reduceSub, Nat.reduceMul, Nat.reduceLeDiff, Nat.reduceLT, Nat.reduceEqDiff, Int.reduceToNat, Int.reduceAdd, Int.reduceMul, Int.reduceSub, Int.reduceLT, Int.reduceLE, Int.reduceEq, Int.reduceNeg, Int.reduceBEq, Int.reduceBNe, ↓reduceIte, reduceCtorEq, hlt, hltb, List.length_map, hx', hy', hx, hy, hw, Option.map_some, hxb, hb, hb0] <;> try simp (disch := omega) only [wrap_of])) | (refine And.intro ?_ ?_) | refine awp_skip ?_ | refine awp_ret ?_ | refine awp_exit ?_ | refine awp_label ?_ | refine awloop_step ?_ | (simp only [go_sem, Nat.reduceAdd, Nat.reduceSub, Nat.reduceMul, Nat.reduceLeDiff, Nat.reduceLT, Nat.reduceEqDiff, Int.reduceToNat, Int.reduceAdd, Int.reduceMul, Int.reduceSub, Int.reduceLT, Int.reduceLE, Int.reduceEq, Int.reduceNeg, Int.reduceBEq, Int.reduceBNe, ↓reduceIte, reduceCtorEq, hlt, hltb, List.length_map, hx', hy', hx, hy, hw, Option.map_some, hxb]) | fail)
        (refine resX ?_; try exact True.intro)
  · have hlb : ((a.length : Int) != (b.length : Int)) = true := by simp; omega
    have e : (a == b) = false := by
      rw [beq_eq_false_iff_ne]; intro e; exact hlen (by rw [e])
    rw [e]
    (refine ARun.intro Tryd.func13 rfl Tryd.call13 Tryd.ntmps13 Tryd.results13 ?_; simp only [List.length_cons, List.length_nil, List.length_map, Nat.reduceAdd, Nat.reduceSub, List.replicate_succ, List.replicate_zero, List.cons_append, List.nil_append])
    repeat' (first | refine awp_seq ?_ | refine awp_block ?_ | refine awp_scope ?_ | ((first | refine awp_region_k fun Kn Kp hn hp => ?_ | show AWP _ _ (Code.region 6 _ true) _ _ _; refine awp_drawn_k (id := 6) [] [] [.win [0], .win [0], .win [0], .win [0], .win [0], .win [0], .win [0], .win [0], .win [0]] 0 rfl (by as_aux_lemma => kernel_rfl) fun Kn Kp hn hp => ?_ | refine oge_intro (by assumption) ?_) <;> (simp only [go_sem, Nat.reduceAdd, Nat.reduceSub, Nat.reduceMul, Nat.reduceLeDiff, Nat.reduceLT, Nat.reduceEqDiff, Int.reduceToNat, Int.reduceAdd, Int.reduceMul, Int.reduceSub, Int.reduceLT, Int.reduceLE, Int.reduceEq, Int.reduceNeg, Int.reduceBEq, Int.reduceBNe, ↓reduceIte, reduceCtorEq, List.length_map, hlb] <;> try simp (disch := omega) only [wrap_of])) | (refine hn _ _ ?_; clear hn hp Kn Kp) | (refine hp _ _ _ ?_; clear hn hp Kn Kp) | (refine awp_cond rfl (fun hb => ?_) (fun hb => ?_) <;> (try simp only [decide_eq_true_eq, decide_eq_false_iff_not, Bool.not_eq_true', Bool.not_eq_false', Bool.true_eq_false, Bool.false_eq_true, beq_iff_eq, bne_iff_ne, bne_eq_false_iff_eq, beq_eq_false_iff_ne, gt_iff_lt, ge_iff_le, Int.reduceEq, Int.reduceNe, Int.reduceLT, Int.reduceLE, ne_eq, not_true_eq_false, not_false_eq_true] at hb)) | ((first | refine awg_split (fun hb => ?_) (fun hb => ?_) | refine awsg_split (fun hb => ?_) (fun hb => ?_)) <;> have hb0 := hb <;> (try simp only [decide_eq_true_eq, decide_eq_false_iff_not, Bool.not_eq_true', Bool.not_eq_false', Bool.true_eq_false, Bool.false_eq_true, beq_iff_eq, bne_iff_ne, bne_eq_false_iff_eq, beq_eq_false_iff_ne, gt_iff_lt, ge_iff_le, Int.reduceEq, Int.reduceNe, Int.reduceLT, Int.reduceLE, ne_eq, not_true_eq_false, not_false_eq_true] at hb0) <;> (try simp only [beq_true, beq_false, Bool.not_eq_true', Bool.not_eq_false'] at hb) <;> (simp only [go_sem, Nat.reduceAdd, Nat.reduceSub, Nat.reduceMul, Nat.reduceLeDiff, Nat.reduceLT, Nat.reduceEqDiff, Int.reduceToNat, Int.reduceAdd, Int.reduceMul, Int.reduceSub, Int.reduceLT, Int.reduceLE, Int.reduceEq, Int.reduceNeg, Int.reduceBEq, Int.reduceBNe, ↓reduceIte, reduceCtorEq, List.length_map, hlb, hb, hb0] <;> try simp (disch := omega) only [wrap_of])) | (refine And.intro ?_ ?_) | refine awp_skip ?_ | refine awp_ret ?_ | refine awp_exit ?_ | refine awp_label ?_ | refine awloop_step ?_ | fail)
    (refine resX ?_; try exact True.intro)
end Go.Proofs.YtimmncjdknlegaaDoor.Y

/- Plain laws: the stack machine as a whole. -/
set_option linter.unusedVariables false
namespace Go.Proofs.YtimmncjdknlegaaDoor.AL
def callOk (x : Cal) : Bool := decide (0 ≤ x.ev ∧ x.ev < 5 ∧ 1 ≤ x.i0 ∧ x.i0 ≤ 1000 ∧ 1 ≤ x.i1 ∧ x.i1 ≤ 10000000 ∧ 1 ≤ x.i2 ∧ x.i2 ≤ 10000 ∧ 0 ≤ x.i3 ∧ x.i3 ≤ 4000)
def stOk : List Vr → List Int → Bool
  | v :: vs, n :: ns => decide (-1000000000000 ≤ n ∧ n ≤ 1000000000000 ∧ v.low ≤ n ∧ n ≤ v.high) && stOk vs ns
  | [], [] => true
  | _, _ => false
theorem stOk_len : ∀ {vs : List Vr} {st : List Int}, stOk vs st = true → st.length = vs.length
  | [], [], _ => rfl
  | [], _ :: _, h => by simp [stOk] at h
  | _ :: _, [], h => by simp [stOk] at h
  | v :: vs, n :: ns, h => by
    simp only [stOk, Bool.and_eq_true] at h
    simp [stOk_len h.2]
theorem stOk_isV : ∀ {vs : List Vr} {st : List Int}, stOk vs st = true → ∀ n ∈ st, isV n
  | [], [], _, n, hn => by cases hn
  | [], _ :: _, h, _, _ => by simp [stOk] at h
  | _ :: _, [], h, _, _ => by simp [stOk] at h
  | v :: vs, m :: ns, h, n, hn => by
    simp only [stOk, Bool.and_eq_true, decide_eq_true_eq] at h
    rcases List.mem_cons.1 hn with rfl | hn
    · exact ⟨h.1.1, h.1.2.1⟩
    · exact stOk_isV h.2 n hn
def hand (c : Cod) (ev : Int) : List Ins := if ev = 0 then c.c0 else if ev = 1 then c.c1 else if ev = 2 then c.c2 else if ev = 3 then c.c3 else c.c4
def fitsS (vs : List Vr) (c : Cod) (st : List Int) (x : Cal) : Bool := verC c vs.length && (stOk vs st && callOk x)
def runS (vs : List Vr) (c : Cod) (st : List Int) (x : Cal) : Except Int (List Int) × Nat := traceS vs x.i0 x.i1 x.i2 x.i3 (hand c x.ev) ((hand c x.ev).length + 1) ⟨st, [], 0⟩ 0
def runE (r : Except Int (List Int)) : Int := match r with
  | .ok _ => 0
  | .error e => e
def runL (r : Except Int (List Int)) : List Int := match r with
  | .ok s => s
  | .error _ => []
theorem hand_ver {c : Cod} {vars ev : Int} (h : verC c vars = true) (h0 : 0 ≤ ev) (h5 : ev < 5) : verH (hand c ev) vars = true := by
  unfold verC at h
  simp only [Bool.and_eq_true] at h
  obtain ⟨_, h0, h1, h2, h3, h4⟩ := h
  unfold hand
  repeat' split
  all_goals assumption
theorem call_in {x : Cal} (h : callOk x = true) : ∀ j, isV (inS x.i0 x.i1 x.i2 x.i3 j) := by
  intro j
  unfold callOk at h
  have h := of_decide_eq_true h
  unfold inS isV
  repeat' split
  all_goals omega
section
variable {vs : List Vr} {i0 i1 i2 i3 : Int} {l : List Ins}
theorem trace_none {f n : Nat} {c : Cf} (h : l[c.at']? = none) : traceS vs i0 i1 i2 i3 l f c n = (.ok c.now, n) := by
  cases f with
  | zero => rfl
  | succ f => simp only [traceS, h]
theorem trace_err {f n : Nat} {c : Cf} {x : Ins} {e : Int} (h : l[c.at']? = some x) (hs : stepS vs i0 i1 i2 i3 x c = .error e) : traceS vs i0 i1 i2 i3 l (f + 1) c n = (.error e, n + 1) := by
  simp only [traceS, h, hs]
theorem trace_ok {f n : Nat} {c c' : Cf} {x : Ins} (h : l[c.at']? = some x) (hs : stepS vs i0 i1 i2 i3 x c = .ok c') : traceS vs i0 i1 i2 i3 l (f + 1) c n = traceS vs i0 i1 i2 i3 l f c' (n + 1) := by
  simp only [traceS, h, hs]
/-- Enough fuel, and one more: the same. -/
structure Going (vs : List Vr) (i0 i1 i2 i3 : Int) (l : List Ins) (ht : Nat → Int) (c : Cf) (n : Nat) : Prop where
  ok : CfOk vs c
  ht : (c.stk.length : Int) = ht c.at'
  le : c.at' ≤ l.length
  nle : n ≤ c.at'
end
end Go.Proofs.YtimmncjdknlegaaDoor.AL
namespace Go.Proofs.YtimmncjdknlegaaDoor.AL
/-- Where a run of a handler stands. -/
structure TInv (vs : List Vr) (i0 i1 i2 i3 : Int) (l : List Ins) (ht : Nat → Int) (st : List Int) (c : Cf) (n : Nat) : Prop where
  ok : CfOk vs c
  ht : (c.stk.length : Int) = ht c.at'
  le : c.at' ≤ l.length
  nle : n ≤ c.at'
  tr : ∃ f, l.length < f + c.at' ∧ traceS vs i0 i1 i2 i3 l (l.length + 1) ⟨st, [], 0⟩ 0 = traceS vs i0 i1 i2 i3 l f c n
section
variable {vs : List Vr} {i0 i1 i2 i3 : Int} {l : List Ins} {ht : Nat → Int} {st : List Int} {c c' : Cf} {n : Nat} {x : Ins}
theorem TInv.start (hc : Cert l vs.length ht) (hs : stOk vs st = true) : TInv vs i0 i1 i2 i3 l ht st ⟨st, [], 0⟩ 0 :=
  ⟨⟨stOk_len hs, stOk_isV hs, fun _ h => by cases h⟩, by simp [hc.zero], Nat.zero_le _, Nat.le_refl _, ⟨l.length + 1, by simp, rfl⟩⟩
theorem TInv.next (hc : Cert l vs.length ht) (hi : ∀ j, isV (inS i0 i1 i2 i3 j)) (t : TInv vs i0 i1 i2 i3 l ht st c n) (hx : l[c.at']? = some x) (hs : stepS vs i0 i1 i2 i3 x c = .ok c') :
    TInv vs i0 i1 i2 i3 l ht st c' (n + 1) ∧ l.length - c'.at' < l.length - c.at' := by
  obtain ⟨a1, a2, a3, a4⟩ := stepS_cert hc hx t.ok t.ht hi hs
  obtain ⟨f, f1, f2⟩ := t.tr
  have hlt := (List.getElem?_eq_some_iff.1 hx).1
  obtain ⟨g, rfl⟩ : ∃ g, f = g + 1 := ⟨f - 1, by omega⟩
  have := t.nle
  exact ⟨⟨a1, a2, a4, by omega, ⟨g, by omega, by rw [f2, trace_ok hx hs]⟩⟩, by omega⟩
theorem TInv.err (t : TInv vs i0 i1 i2 i3 l ht st c n) (hx : l[c.at']? = some x) {e : Int} (hs : stepS vs i0 i1 i2 i3 x c = .error e) :
    traceS vs i0 i1 i2 i3 l (l.length + 1) ⟨st, [], 0⟩ 0 = (.error e, n + 1) := by
  obtain ⟨f, f1, f2⟩ := t.tr
  have hlt := (List.getElem?_eq_some_iff.1 hx).1
  obtain ⟨g, rfl⟩ : ∃ g, f = g + 1 := ⟨f - 1, by omega⟩
  rw [f2, trace_err hx hs]
theorem TInv.stop (t : TInv vs i0 i1 i2 i3 l ht st c n) (hx : l[c.at']? = none) : traceS vs i0 i1 i2 i3 l (l.length + 1) ⟨st, [], 0⟩ 0 = (.ok c.now, n) := by
  obtain ⟨f, f1, f2⟩ := t.tr
  rw [f2, trace_none hx]
end
end Go.Proofs.YtimmncjdknlegaaDoor.AL
namespace Go.Proofs.YtimmncjdknlegaaDoor.AL
def dV : Vr := ⟨default, 0, 0, 0, 0⟩
theorem getEV {l : List Vr} {k : Nat} (h : k < l.length) : l[k]? = some (l.getD k dV) := by
  rw [List.getD_eq_getElem?_getD, List.getElem?_eq_getElem h]; rfl
theorem takes_2 {op : Int} (h : op = 12 ∨ (op ≠ 1 ∧ op ≠ 2 ∧ op ≠ 3 ∧ op ≠ 11 ∧ op ≠ 13)) : takes op = 2 := by
  unfold takes; rw [if_neg (by omega), if_neg (by omega)]
end Go.Proofs.YtimmncjdknlegaaDoor.AL
namespace Go.Proofs.YtimmncjdknlegaaDoor.AL
def refRunS (vs : List Vr) (c : Cod) (st : List Int) (x : Cal) : Except Int (List Int) := if fitsS vs c st x = true then (runS vs c st x).1 else .error 1
def stepsN (vs : List Vr) (c : Cod) (st : List Int) (x : Cal) : Int := if fitsS vs c st x = true then ((runS vs c st x).2 : Int) else 0
def stepsE (vs : List Vr) (c : Cod) (st : List Int) (x : Cal) : Int := if fitsS vs c st x = true then 0 else 1
theorem verC_vars {c : Cod} {vars : Int} (h : verC c vars = true) : 0 ≤ vars ∧ vars ≤ 12 := by
  unfold verC at h
  simp only [Bool.and_eq_true, decide_eq_true_eq] at h
  exact h.1
theorem fits_all {vs : List Vr} {c : Cod} {st : List Int} {x : Cal} (h : fitsS vs c st x = true) : verC c vs.length = true ∧ stOk vs st = true ∧ callOk x = true := by
  unfold fitsS at h
  simp only [Bool.and_eq_true] at h
  exact h
theorem call_ev {x : Cal} (h : callOk x = true) : 0 ≤ x.ev ∧ x.ev < 5 := by
  unfold callOk at h
  have h := of_decide_eq_true h
  exact ⟨h.1, h.2.1⟩
theorem hand_get {c : Cod} {ev : Int} (h : 0 ≤ ev ∧ ev < 5) : [AV.rs 3 (c.c0.map encI), .rs 3 (c.c1.map encI), .rs 3 (c.c2.map encI), .rs 3 (c.c3.map encI), .rs 3 (c.c4.map encI)][ev.toNat]? = some (.rs 3 ((hand c ev).map encI)) := by
  have : ev = 0 ∨ ev = 1 ∨ ev = 2 ∨ ev = 3 ∨ ev = 4 := by omega
  rcases this with rfl | rfl | rfl | rfl | rfl <;> rfl
end Go.Proofs.YtimmncjdknlegaaDoor.AL

set_option maxHeartbeats 8000000
set_option maxRecDepth 20000
set_option linter.unusedVariables false
set_option linter.unusedSimpArgs false
set_option linter.unusedSectionVars false
namespace Go.Proofs.YtimmncjdknlegaaDoor.Y
open Go.Proofs.YtimmncjdknlegaaDoor.AL Go.Proofs Go
attribute [local irreducible] AWP AWL AWG AWR AWE AWX AWO AWSeq AWSG AWSR AWSO AWSE AWSF GoodP OGW OGR OGE OGX PGW PGR PGE Wk AWLoop AWPD AWLD

abbrev agL (x : Cal) : AV := .agg [.i x.ev, .i x.i0, .i x.i1, .i x.i2, .i x.i3]
theorem RCall_run (x : Cal) (H0 : List AObj) :
    ARun Tryd.prog 30 [agL x] H0 (.ret (.b (callOk x)) H0) := by
  (refine ARun.intro Tryd.func30 rfl Tryd.call30 Tryd.ntmps30 Tryd.results30 ?_; simp only [List.length_cons, List.length_nil, List.length_map, Nat.reduceAdd, Nat.reduceSub, List.replicate_succ, List.replicate_zero, List.cons_append, List.nil_append])
  repeat' (first | refine awp_seq ?_ | refine awp_block ?_ | refine awp_scope ?_ | ((first | refine awp_region_k fun Kn Kp hn hp => ?_ | show AWP _ _ (Code.region 5 _ true) _ _ _; refine awp_drawn_k (id := 5) [] [] [.win [0], .win [0], .win [0], .win [0], .win [0], .win [0], .win [0], .win [0], .win [0], .win [0], .win [0], .win [0], .win [0], .win [0], .win [0], .win [0], .win [0], .win [0], .win [0], .win [0], .win [0], .win [0], .win [0], .win [0], .win [0], .win [0], .win [0]] 0 rfl (by as_aux_lemma => kernel_rfl) fun Kn Kp hn hp => ?_ | refine oge_intro (by assumption) ?_) <;> (simp only [go_sem, Nat.reduceAdd, Nat.reduceSub, Nat.reduceMul, Nat.reduceLeDiff, Nat.reduceLT, Nat.reduceEqDiff, Int.reduceToNat, Int.reduceAdd, Int.reduceMul, Int.reduceSub, Int.reduceLT, Int.reduceLE, Int.reduceEq, Int.reduceNeg, Int.reduceBEq, Int.reduceBNe, ↓reduceIte, reduceCtorEq] <;> try simp (disch := omega) only [wrap_of])) | (refine hn _ _ ?_; clear hn hp Kn Kp) | (refine hp _ _ _ ?_; clear hn hp Kn Kp) | (simp (disch := omega) only [go_sem, Nat.reduceAdd, Nat.reduceSub, Nat.reduceMul, Nat.reduceLeDiff, Nat.reduceLT, Nat.reduceEqDiff, Int.reduceToNat, Int.reduceAdd, Int.reduceMul, Int.reduceSub, Int.reduceLT, Int.reduceLE, Int.reduceEq, Int.reduceNeg, Int.reduceBEq, Int.reduceBNe, ↓reduceIte, reduceCtorEq, if_pos, if_neg, decide_pos', decide_neg', beq_pos', beq_neg', bne_pos', bne_neg', getE, wrap_of]) | (refine awp_cond_t rfl (by first | with_reducible rfl | (simp only [Bool.and_eq_true, Bool.or_eq_true, Bool.and_eq_false_iff, Bool.or_eq_false_iff, decide_eq_true_eq, decide_eq_false_iff_not, beq_iff_eq, bne_iff_ne, bne_eq_false_iff_eq, beq_eq_false_iff_ne, ne_eq, Bool.not_eq_true', Bool.not_eq_false', not_true_eq_false, not_false_eq_true]; omega)) ?_) | (refine awp_cond_f rfl (by first | with_reducible rfl | (simp only [Bool.and_eq_true, Bool.or_eq_true, Bool.and_eq_false_iff, Bool.or_eq_false_iff, decide_eq_true_eq, decide_eq_false_iff_not, beq_iff_eq, bne_iff_ne, bne_eq_false_iff_eq, beq_eq_false_iff_ne, ne_eq, Bool.not_eq_true', Bool.not_eq_false', not_true_eq_false, not_false_eq_true]; omega)) ?_) | (refine awp_cond rfl (fun hb => ?_) (fun hb => ?_) <;> (try simp only [decide_eq_true_eq, decide_eq_false_iff_not, Bool.not_eq_true', Bool.not_eq_false', Bool.true_eq_false, Bool.false_eq_true, beq_iff_eq, bne_iff_ne, Bool.or_eq_true, Bool.and_eq_true, Bool.or_eq_false_iff, Bool.and_eq_false_iff, bne_eq_false_iff_eq, beq_eq_false_iff_ne, gt_iff_lt, ge_iff_le, Int.reduceEq, Int.reduceNe, Int.reduceLT, Int.reduceLE, ne_eq, not_true_eq_false, not_false_eq_true] at hb)) | ((first | refine awg_split (fun hb => ?_) (fun hb => ?_) | refine awsg_split (fun hb => ?_) (fun hb => ?_)) <;> have hb0 := hb <;> (try simp only [decide_eq_true_eq, decide_eq_false_iff_not, Bool.not_eq_true', Bool.not_eq_false', Bool.true_eq_false, Bool.false_eq_true, beq_iff_eq, bne_iff_ne, Bool.or_eq_true, Bool.and_eq_true, Bool.or_eq_false_iff, Bool.and_eq_false_iff, bne_eq_false_iff_eq, beq_eq_false_iff_ne, gt_iff_lt, ge_iff_le, Int.reduceEq, Int.reduceNe, Int.reduceLT, Int.reduceLE, ne_eq, not_true_eq_false, not_false_eq_true] at hb0) <;> (try simp only [beq_true, beq_false, Bool.not_eq_true', Bool.not_eq_false'] at hb) <;> (simp only [go_sem, Nat.reduceAdd, Nat.reduceSub, Nat.reduceMul, Nat.reduceLeDiff, Nat.reduceLT, Nat.reduceEqDiff, Int.reduceToNat, Int.reduceAdd, Int.reduceMul, Int.reduceSub, Int.reduceLT, Int.reduceLE, Int.reduceEq, Int.reduceNeg, Int.reduceBEq, Int.reduceBNe, ↓reduceIte, reduceCtorEq, hb, hb0] <;> try simp (disch := omega) only [wrap_of])) | (refine And.intro ?_ ?_) | refine awp_skip ?_ | refine awp_ret ?_ | refine awp_exit ?_ | refine awp_label ?_ | refine awloop_step ?_ | fail)
  refine awp_loop 5 ?_
  repeat' (first | refine awp_seq ?_ | refine awp_block ?_ | refine awp_scope ?_ | ((first | refine awp_region_k fun Kn Kp hn hp => ?_ | show AWP _ _ (Code.region 5 _ true) _ _ _; refine awp_drawn_k (id := 5) [] [] [.win [0], .win [0], .win [0], .win [0], .win [0], .win [0], .win [0], .win [0], .win [0], .win [0], .win [0], .win [0], .win [0], .win [0], .win [0], .win [0], .win [0], .win [0], .win [0], .win [0], .win [0], .win [0], .win [0], .win [0], .win [0], .win [0], .win [0]] 0 rfl (by as_aux_lemma => kernel_rfl) fun Kn Kp hn hp => ?_ | refine oge_intro (by assumption) ?_) <;> (simp only [go_sem, Nat.reduceAdd, Nat.reduceSub, Nat.reduceMul, Nat.reduceLeDiff, Nat.reduceLT, Nat.reduceEqDiff, Int.reduceToNat, Int.reduceAdd, Int.reduceMul, Int.reduceSub, Int.reduceLT, Int.reduceLE, Int.reduceEq, Int.reduceNeg, Int.reduceBEq, Int.reduceBNe, ↓reduceIte, reduceCtorEq] <;> try simp (disch := omega) only [wrap_of])) | (refine hn _ _ ?_; clear hn hp Kn Kp) | (refine hp _ _ _ ?_; clear hn hp Kn Kp) | (simp (disch := omega) only [go_sem, Nat.reduceAdd, Nat.reduceSub, Nat.reduceMul, Nat.reduceLeDiff, Nat.reduceLT, Nat.reduceEqDiff, Int.reduceToNat, Int.reduceAdd, Int.reduceMul, Int.reduceSub, Int.reduceLT, Int.reduceLE, Int.reduceEq, Int.reduceNeg, Int.reduceBEq, Int.reduceBNe, ↓reduceIte, reduceCtorEq, if_pos, if_neg, decide_pos', decide_neg', beq_pos', beq_neg', bne_pos', bne_neg', getE, wrap_of]) | (refine awp_cond_t rfl (by first | with_reducible rfl | (simp only [Bool.and_eq_true, Bool.or_eq_true, Bool.and_eq_false_iff, Bool.or_eq_false_iff, decide_eq_true_eq, decide_eq_false_iff_not, beq_iff_eq, bne_iff_ne, bne_eq_false_iff_eq, beq_eq_false_iff_ne, ne_eq, Bool.not_eq_true', Bool.not_eq_false', not_true_eq_false, not_false_eq_true]; omega)) ?_) | (refine awp_cond_f rfl (by first | with_reducible rfl | (simp only [Bool.and_eq_true, Bool.or_eq_true, Bool.and_eq_false_iff, Bool.or_eq_false_iff, decide_eq_true_eq, decide_eq_false_iff_not, beq_iff_eq, bne_iff_ne, bne_eq_false_iff_eq, beq_eq_false_iff_ne, ne_eq, Bool.not_eq_true', Bool.not_eq_false', not_true_eq_false, not_false_eq_true]; omega)) ?_) | (refine awp_cond rfl (fun hb => ?_) (fun hb => ?_) <;> (try simp only [decide_eq_true_eq, decide_eq_false_iff_not, Bool.not_eq_true', Bool.not_eq_false', Bool.true_eq_false, Bool.false_eq_true, beq_iff_eq, bne_iff_ne, Bool.or_eq_true, Bool.and_eq_true, Bool.or_eq_false_iff, Bool.and_eq_false_iff, bne_eq_false_iff_eq, beq_eq_false_iff_ne, gt_iff_lt, ge_iff_le, Int.reduceEq, Int.reduceNe, Int.reduceLT, Int.reduceLE, ne_eq, not_true_eq_false, not_false_eq_true] at hb)) | ((first | refine awg_split (fun hb => ?_) (fun hb => ?_) | refine awsg_split (fun hb => ?_) (fun hb => ?_)) <;> have hb0 := hb <;> (try simp only [decide_eq_true_eq, decide_eq_false_iff_not, Bool.not_eq_true', Bool.not_eq_false', Bool.true_eq_false, Bool.false_eq_true, beq_iff_eq, bne_iff_ne, Bool.or_eq_true, Bool.and_eq_true, Bool.or_eq_false_iff, Bool.and_eq_false_iff, bne_eq_false_iff_eq, beq_eq_false_iff_ne, gt_iff_lt, ge_iff_le, Int.reduceEq, Int.reduceNe, Int.reduceLT, Int.reduceLE, ne_eq, not_true_eq_false, not_false_eq_true] at hb0) <;> (try simp only [beq_true, beq_false, Bool.not_eq_true', Bool.not_eq_false'] at hb) <;> (simp only [go_sem, Nat.reduceAdd, Nat.reduceSub, Nat.reduceMul, Nat.reduceLeDiff, Nat.reduceLT, Nat.reduceEqDiff, Int.reduceToNat, Int.reduceAdd, Int.reduceMul, Int.reduceSub, Int.reduceLT, Int.reduceLE, Int.reduceEq, Int.reduceNeg, Int.reduceBEq, Int.reduceBNe, ↓reduceIte, reduceCtorEq, hb, hb0] <;> try simp (disch := omega) only [wrap_of])) | (refine And.intro ?_ ?_) | refine awp_skip ?_ | refine awp_ret ?_ | refine awp_exit ?_ | refine awp_label ?_ | refine awloop_step ?_ | fail)
  all_goals ((try rw [show callOk x = false from decide_neg' (by omega)]); (try rw [show callOk x = true from decide_pos' (by omega)]); (refine resX ?_; try exact True.intro); try (rw [show callOk x = decide (x.ev < 5) from decide_eq_decide.2 ⟨fun h => by omega, fun h => by omega⟩]))
end Go.Proofs.YtimmncjdknlegaaDoor.Y

set_option maxHeartbeats 8000000
set_option maxRecDepth 20000
set_option linter.unusedVariables false
set_option linter.unusedSimpArgs false
namespace Go.Proofs.YtimmncjdknlegaaDoor.Y
open Go.Proofs.YtimmncjdknlegaaDoor.AL Go.Proofs Go
attribute [local irreducible] AWP AWL AWG AWR AWE AWX AWO AWSeq AWSG AWSR AWSO AWSE AWSF GoodP OGW OGR OGE OGX PGW PGR PGE Wk AWLoop AWPD AWLD

theorem down_run (a b : Int) (ha : isV a) (hb' : b ≠ 0) (H0 : List AObj) : ARun Tryd.prog 48 [.i a, .i b] H0 (.ret (.i (downS a b)) H0) := by
  have h1 := tdiv_bd ha hb'
  have w1 : IntKind.i64.wrap (a.tdiv b) = a.tdiv b := wrap_of (by omega) (by omega)
  have w2 : IntKind.i64.wrap (a.tdiv b - 1) = a.tdiv b - 1 := wrap_of (by omega) (by omega)
  unfold downS
  by_cases hm : a.tmod b = 0
  · have hm' : (a.tmod b != 0) = false := by simp [hm]
    (refine ARun.intro Tryd.func48 rfl Tryd.call48 Tryd.ntmps48 Tryd.results48 ?_; simp only [List.length_cons, List.length_nil, List.length_map, Nat.reduceAdd, Nat.reduceSub, List.replicate_succ, List.replicate_zero, List.cons_append, List.nil_append])
    (have w1 := hb'; have w2 := hm'; have w3 := w1; refine wk ?_; clear w1 w2 w3; (repeat' first | exact True.intro | refine Lf.mk ?_ ?_); all_goals intro hP)
    (refine resX ?_; try exact True.intro)
    simp [hm]
  · have hm' : (a.tmod b != 0) = true := by simpa using hm
    cases hd : (decide (a < 0) == decide (b < 0)) with
    | true =>
      have hd' : (decide (a < 0) != decide (b < 0)) = false := by simp only [bne, hd]; rfl
      (refine ARun.intro Tryd.func48 rfl Tryd.call48 Tryd.ntmps48 Tryd.results48 ?_; simp only [List.length_cons, List.length_nil, List.length_map, Nat.reduceAdd, Nat.reduceSub, List.replicate_succ, List.replicate_zero, List.cons_append, List.nil_append])
      (have w1 := hb'; have w2 := hm'; have w3 := hd; have w4 := w1; refine wk ?_; clear w1 w2 w3 w4; (repeat' first | exact True.intro | refine Lf.mk ?_ ?_); all_goals intro hP)
      (refine resX ?_; try exact True.intro)
      all_goals simp only [hd', Bool.false_eq_true, and_false, if_false]
    | false =>
      have hd' : (decide (a < 0) != decide (b < 0)) = true := by simp only [bne, hd]; rfl
      (refine ARun.intro Tryd.func48 rfl Tryd.call48 Tryd.ntmps48 Tryd.results48 ?_; simp only [List.length_cons, List.length_nil, List.length_map, Nat.reduceAdd, Nat.reduceSub, List.replicate_succ, List.replicate_zero, List.cons_append, List.nil_append])
      (have w1 := hb'; have w2 := hm'; have w3 := hd; have w4 := w1; have w5 := w2; refine wk ?_; clear w1 w2 w3 w4 w5; (repeat' first | exact True.intro | refine Lf.mk ?_ ?_); all_goals intro hP)
      (refine resX ?_; try exact True.intro)
      all_goals simp only [hd', hm, ne_eq, not_false_eq_true, and_self, if_true]
theorem product_run (a b : Int) (ha : isV a) (hb' : isV b) (H0 : List AObj) : ARun Tryd.prog 47 [.i a, .i b] H0 (.ret (.i (prodS a b)) H0) := by
  by_cases h0 : a = 0
  · subst h0
    have w1 : IntKind.i64.wrap (0 * b) = 0 := by rw [Int.zero_mul]; rfl
    (refine ARun.intro Tryd.func47 rfl Tryd.call47 Tryd.ntmps47 Tryd.results47 ?_; simp only [List.length_cons, List.length_nil, List.length_map, Nat.reduceAdd, Nat.reduceSub, List.replicate_succ, List.replicate_zero, List.cons_append, List.nil_append])
    repeat' (first | refine awp_seq ?_ | refine awp_block ?_ | refine awp_scope ?_ | ((first | refine awp_region_k fun Kn Kp hn hp => ?_ | show AWP _ _ (Code.region 1 _ true) _ _ _; refine awp_drawn_k (id := 1) [14, 15] [] [.win [0], .win [0], .win [0], .win [0, 1], .win [0, 1], .win [0, 1], .win [0, 1], .win [0, 1], .win [0, 1], .win [0, 1], .win [0, 1], .win [0, 1], .win [0, 1], .win [0], .eff 0, .eff 1, .win [2], .win [2]] 2 rfl (by as_aux_lemma => kernel_rfl) fun Kn Kp hn hp => ?_ | refine oge_intro (by assumption) ?_) <;> (simp only [go_sem, Nat.reduceAdd, Nat.reduceSub, Nat.reduceMul, Nat.reduceLeDiff, Nat.reduceLT, Nat.reduceEqDiff, Int.reduceToNat, Int.reduceAdd, Int.reduceMul, Int.reduceSub, Int.reduceLT, Int.reduceLE, Int.reduceEq, Int.reduceNeg, Int.reduceBEq, Int.reduceBNe, ↓reduceIte, reduceCtorEq, w1] <;> try simp (disch := omega) only [wrap_of])) | (refine hn _ _ ?_; clear hn hp Kn Kp) | (refine hp _ _ _ ?_; clear hn hp Kn Kp) | (refine awp_cond rfl (fun hb => ?_) (fun hb => ?_) <;> (try simp only [decide_eq_true_eq, decide_eq_false_iff_not, Bool.not_eq_true', Bool.not_eq_false', Bool.true_eq_false, Bool.false_eq_true, beq_iff_eq, bne_iff_ne, bne_eq_false_iff_eq, beq_eq_false_iff_ne, gt_iff_lt, ge_iff_le, Int.reduceEq, Int.reduceNe, Int.reduceLT, Int.reduceLE, ne_eq, not_true_eq_false, not_false_eq_true] at hb)) | ((first | refine awg_split (fun hb => ?_) (fun hb => ?_) | refine awsg_split (fun hb => ?_) (fun hb => ?_)) <;> have hb0 := hb <;> (try simp only [decide_eq_true_eq, decide_eq_false_iff_not, Bool.not_eq_true', Bool.not_eq_false', Bool.true_eq_false, Bool.false_eq_true, beq_iff_eq, bne_iff_ne, bne_eq_false_iff_eq, beq_eq_false_iff_ne, gt_iff_lt, ge_iff_le, Int.reduceEq, Int.reduceNe, Int.reduceLT, Int.reduceLE, ne_eq, not_true_eq_false, not_false_eq_true] at hb0) <;> (try simp only [beq_true, beq_false, Bool.not_eq_true', Bool.not_eq_false'] at hb) <;> (simp only [go_sem, Nat.reduceAdd, Nat.reduceSub, Nat.reduceMul, Nat.reduceLeDiff, Nat.reduceLT, Nat.reduceEqDiff, Int.reduceToNat, Int.reduceAdd, Int.reduceMul, Int.reduceSub, Int.reduceLT, Int.reduceLE, Int.reduceEq, Int.reduceNeg, Int.reduceBEq, Int.reduceBNe, ↓reduceIte, reduceCtorEq, w1, hb, hb0] <;> try simp (disch := omega) only [wrap_of])) | (refine And.intro ?_ ?_) | refine awp_skip ?_ | refine awp_ret ?_ | refine awp_exit ?_ | refine awp_label ?_ | refine awloop_step ?_ | fail)
    (refine resX ?_; try exact True.intro)
    all_goals simp [prodS]
  · have h0' : (a != 0) = true := by simpa using h0
    have w1 : IntKind.i64.wrap (-a) = -a := wrap_of (by omega) (by omega)
    have hm0 : ¬ (if a < -a then -a else a) = 0 := by split <;> omega
    have hp : 0 < (if a < -a then -a else a) := by split <;> omega
    generalize hm : (if a < -a then -a else a) = m at hm0 hp
    have b1 := tdiv_bd (a := -1000000000000) (b := m) ⟨by omega, by omega⟩ hm0
    have b2 := tdiv_bd (a := 1000000000000) (b := m) ⟨by omega, by omega⟩ hm0
    have w2 : IntKind.i64.wrap ((-1000000000000 : Int).tdiv m) = (-1000000000000 : Int).tdiv m := wrap_of (by omega) (by omega)
    have w3 : IntKind.i64.wrap ((1000000000000 : Int).tdiv m) = (1000000000000 : Int).tdiv m := wrap_of (by omega) (by omega)
    have hin := fun H0 => in_run ((-1000000000000 : Int).tdiv m) ((1000000000000 : Int).tdiv m) b H0
    by_cases hbd : b < (-1000000000000 : Int).tdiv m ∨ (1000000000000 : Int).tdiv m < b
    · have hd : (decide ((-1000000000000 : Int).tdiv m ≤ b) && decide (b ≤ (1000000000000 : Int).tdiv m)) = false := by
        rcases hbd with h | h
        · rw [decide_eq_false (Int.not_le.2 h)]; rfl
        · rw [decide_eq_false (p := b ≤ _) (Int.not_le.2 h), Bool.and_false]
      simp only [hd] at hin
      (refine ARun.intro Tryd.func47 rfl Tryd.call47 Tryd.ntmps47 Tryd.results47 ?_; simp only [List.length_cons, List.length_nil, List.length_map, Nat.reduceAdd, Nat.reduceSub, List.replicate_succ, List.replicate_zero, List.cons_append, List.nil_append])
      repeat' (first | refine awp_seq ?_ | refine awp_block ?_ | refine awp_scope ?_ | ((first | refine awp_region_k fun Kn Kp hn hp => ?_ | show AWP _ _ (Code.region 1 _ true) _ _ _; refine awp_drawn_k (id := 1) [14, 15] [] [.win [0], .win [0], .win [0], .win [0, 1], .win [0, 1], .win [0, 1], .win [0, 1], .win [0, 1], .win [0, 1], .win [0, 1], .win [0, 1], .win [0, 1], .win [0, 1], .win [0], .eff 0, .eff 1, .win [2], .win [2]] 2 rfl (by as_aux_lemma => kernel_rfl) fun Kn Kp hn hp => ?_ | refine oge_intro (by assumption) ?_) <;> (simp only [go_sem, Nat.reduceAdd, Nat.reduceSub, Nat.reduceMul, Nat.reduceLeDiff, Nat.reduceLT, Nat.reduceEqDiff, Int.reduceToNat, Int.reduceAdd, Int.reduceMul, Int.reduceSub, Int.reduceLT, Int.reduceLE, Int.reduceEq, Int.reduceNeg, Int.reduceBEq, Int.reduceBNe, ↓reduceIte, reduceCtorEq, h0', w1, hm, hm0, w2, w3] <;> try simp (disch := omega) only [wrap_of])) | (refine hn _ _ ?_; clear hn hp Kn Kp) | (refine hp _ _ _ ?_; clear hn hp Kn Kp) | (refine awp_cond rfl (fun hb => ?_) (fun hb => ?_) <;> (try simp only [decide_eq_true_eq, decide_eq_false_iff_not, Bool.not_eq_true', Bool.not_eq_false', Bool.true_eq_false, Bool.false_eq_true, beq_iff_eq, bne_iff_ne, bne_eq_false_iff_eq, beq_eq_false_iff_ne, gt_iff_lt, ge_iff_le, Int.reduceEq, Int.reduceNe, Int.reduceLT, Int.reduceLE, ne_eq, not_true_eq_false, not_false_eq_true] at hb)) | ((first | refine awg_split (fun hb => ?_) (fun hb => ?_) | refine awsg_split (fun hb => ?_) (fun hb => ?_)) <;> have hb0 := hb <;> (try simp only [decide_eq_true_eq, decide_eq_false_iff_not, Bool.not_eq_true', Bool.not_eq_false', Bool.true_eq_false, Bool.false_eq_true, beq_iff_eq, bne_iff_ne, bne_eq_false_iff_eq, beq_eq_false_iff_ne, gt_iff_lt, ge_iff_le, Int.reduceEq, Int.reduceNe, Int.reduceLT, Int.reduceLE, ne_eq, not_true_eq_false, not_false_eq_true] at hb0) <;> (try simp only [beq_true, beq_false, Bool.not_eq_true', Bool.not_eq_false'] at hb) <;> (simp only [go_sem, Nat.reduceAdd, Nat.reduceSub, Nat.reduceMul, Nat.reduceLeDiff, Nat.reduceLT, Nat.reduceEqDiff, Int.reduceToNat, Int.reduceAdd, Int.reduceMul, Int.reduceSub, Int.reduceLT, Int.reduceLE, Int.reduceEq, Int.reduceNeg, Int.reduceBEq, Int.reduceBNe, ↓reduceIte, reduceCtorEq, h0', w1, hm, hm0, w2, w3, hb, hb0] <;> try simp (disch := omega) only [wrap_of])) | (refine And.intro ?_ ?_) | ((show AWE _ _ _ _ _ _ _ _ _; refine awe_intro (ARun.lend 2 ( hin []) ?_ rfl) ?_); (· simp only [List.map_cons, List.map_nil, AV.low, AV.toPV, AV.toPVs, AV.toPVr, getO0, getOk, getS0, getSk, List.getElem?_cons_zero, List.getElem?_cons_succ, Nat.not_lt_zero, if_false, if_true, List.length_cons, List.length_nil, Nat.zero_le, and_self, and_true, true_and, List.drop_zero, List.take_succ_cons, List.take_zero, List.take_nil, Option.map_some, Nat.zero_add]; repeat' (first | exact trivial | exact Cv.refl _ | exact Cv.nil (Nat.succ_pos _) | exact PCv.refl _ | exact PCv.nil (Nat.succ_pos _) | refine And.intro ?_ ?_ | refine Cv.agg ?_ | refine Cv.pv (PCv.rs ?_) | refine PCv.rs ?_)); (simp only [go_sem, Nat.reduceAdd, Nat.reduceSub, Nat.reduceMul, Nat.reduceLeDiff, Nat.reduceLT, Nat.reduceEqDiff, Int.reduceToNat, Int.reduceAdd, Int.reduceMul, Int.reduceSub, Int.reduceLT, Int.reduceLE, Int.reduceEq, Int.reduceNeg, Int.reduceBEq, Int.reduceBNe, ↓reduceIte, reduceCtorEq, h0', w1, hm, hm0, w2, w3] <;> try simp (disch := omega) only [wrap_of])) | ((show AWSF _ _ _ _ _ _ _ _ _ _ _; refine awsf_intro (ARun.lend 2 ( hin []) ?_ rfl) (fun hrun => ?_)); (· simp only [List.map_cons, List.map_nil, AV.low, AV.toPV, AV.toPVs, AV.toPVr, getO0, getOk, getS0, getSk, List.getElem?_cons_zero, List.getElem?_cons_succ, Nat.not_lt_zero, if_false, if_true, List.length_cons, List.length_nil, Nat.zero_le, and_self, and_true, true_and, List.drop_zero, List.take_succ_cons, List.take_zero, List.take_nil, Option.map_some, Nat.zero_add]; repeat' (first | exact trivial | exact Cv.refl _ | exact Cv.nil (Nat.succ_pos _) | exact PCv.refl _ | exact PCv.nil (Nat.succ_pos _) | refine And.intro ?_ ?_ | refine Cv.agg ?_ | refine Cv.pv (PCv.rs ?_) | refine PCv.rs ?_)); (simp only [go_sem, Nat.reduceAdd, Nat.reduceSub, Nat.reduceMul, Nat.reduceLeDiff, Nat.reduceLT, Nat.reduceEqDiff, Int.reduceToNat, Int.reduceAdd, Int.reduceMul, Int.reduceSub, Int.reduceLT, Int.reduceLE, Int.reduceEq, Int.reduceNeg, Int.reduceBEq, Int.reduceBNe, ↓reduceIte, reduceCtorEq, h0', w1, hm, hm0, w2, w3] <;> try simp (disch := omega) only [wrap_of])) | ((show OGE _ _ _ _ _ _ _; refine oge_intro (ARun.lend 2 ( hin []) ?_ rfl) ?_); (· simp only [List.map_cons, List.map_nil, AV.low, AV.toPV, AV.toPVs, AV.toPVr, getO0, getOk, getS0, getSk, List.getElem?_cons_zero, List.getElem?_cons_succ, Nat.not_lt_zero, if_false, if_true, List.length_cons, List.length_nil, Nat.zero_le, and_self, and_true, true_and, List.drop_zero, List.take_succ_cons, List.take_zero, List.take_nil, Option.map_some, Nat.zero_add]; repeat' (first | exact trivial | exact Cv.refl _ | exact Cv.nil (Nat.succ_pos _) | exact PCv.refl _ | exact PCv.nil (Nat.succ_pos _) | refine And.intro ?_ ?_ | refine Cv.agg ?_ | refine Cv.pv (PCv.rs ?_) | refine PCv.rs ?_)); (simp only [go_sem, Nat.reduceAdd, Nat.reduceSub, Nat.reduceMul, Nat.reduceLeDiff, Nat.reduceLT, Nat.reduceEqDiff, Int.reduceToNat, Int.reduceAdd, Int.reduceMul, Int.reduceSub, Int.reduceLT, Int.reduceLE, Int.reduceEq, Int.reduceNeg, Int.reduceBEq, Int.reduceBNe, ↓reduceIte, reduceCtorEq, h0', w1, hm, hm0, w2, w3] <;> try simp (disch := omega) only [wrap_of])) | ((show AWSE _ _ _ _ _ _ _ _ _ _ _; refine awse_intro (ARun.lend 2 ( hin []) ?_ rfl) (fun hrun => ?_)); (· simp only [List.map_cons, List.map_nil, AV.low, AV.toPV, AV.toPVs, AV.toPVr, getO0, getOk, getS0, getSk, List.getElem?_cons_zero, List.getElem?_cons_succ, Nat.not_lt_zero, if_false, if_true, List.length_cons, List.length_nil, Nat.zero_le, and_self, and_true, true_and, List.drop_zero, List.take_succ_cons, List.take_zero, List.take_nil, Option.map_some, Nat.zero_add]; repeat' (first | exact trivial | exact Cv.refl _ | exact Cv.nil (Nat.succ_pos _) | exact PCv.refl _ | exact PCv.nil (Nat.succ_pos _) | refine And.intro ?_ ?_ | refine Cv.agg ?_ | refine Cv.pv (PCv.rs ?_) | refine PCv.rs ?_)); (simp only [go_sem, Nat.reduceAdd, Nat.reduceSub, Nat.reduceMul, Nat.reduceLeDiff, Nat.reduceLT, Nat.reduceEqDiff, Int.reduceToNat, Int.reduceAdd, Int.reduceMul, Int.reduceSub, Int.reduceLT, Int.reduceLE, Int.reduceEq, Int.reduceNeg, Int.reduceBEq, Int.reduceBNe, ↓reduceIte, reduceCtorEq, h0', w1, hm, hm0, w2, w3] <;> try simp (disch := omega) only [wrap_of])) | refine awp_skip ?_ | refine awp_ret ?_ | refine awp_exit ?_ | refine awp_label ?_ | refine awloop_step ?_ | fail)
      (refine resX ?_; try exact True.intro)
      all_goals rw [prodS_out h0 hm hbd]
    · have hd1 : (-1000000000000 : Int).tdiv m ≤ b := Int.not_lt.1 fun h => hbd (.inl h)
      have hd2 : b ≤ (1000000000000 : Int).tdiv m := Int.not_lt.1 fun h => hbd (.inr h)
      have hd : (decide ((-1000000000000 : Int).tdiv m ≤ b) && decide (b ≤ (1000000000000 : Int).tdiv m)) = true := by rw [decide_eq_true hd1, decide_eq_true hd2]; rfl
      simp only [hd] at hin
      have hmul := prod_fits hm hp hd1 hd2
      have w4 : IntKind.i64.wrap (a * b) = a * b := wrap_of (by omega) (by omega)
      (refine ARun.intro Tryd.func47 rfl Tryd.call47 Tryd.ntmps47 Tryd.results47 ?_; simp only [List.length_cons, List.length_nil, List.length_map, Nat.reduceAdd, Nat.reduceSub, List.replicate_succ, List.replicate_zero, List.cons_append, List.nil_append])
      repeat' (first | refine awp_seq ?_ | refine awp_block ?_ | refine awp_scope ?_ | ((first | refine awp_region_k fun Kn Kp hn hp => ?_ | show AWP _ _ (Code.region 1 _ true) _ _ _; refine awp_drawn_k (id := 1) [14, 15] [] [.win [0], .win [0], .win [0], .win [0, 1], .win [0, 1], .win [0, 1], .win [0, 1], .win [0, 1], .win [0, 1], .win [0, 1], .win [0, 1], .win [0, 1], .win [0, 1], .win [0], .eff 0, .eff 1, .win [2], .win [2]] 2 rfl (by as_aux_lemma => kernel_rfl) fun Kn Kp hn hp => ?_ | refine oge_intro (by assumption) ?_) <;> (simp only [go_sem, Nat.reduceAdd, Nat.reduceSub, Nat.reduceMul, Nat.reduceLeDiff, Nat.reduceLT, Nat.reduceEqDiff, Int.reduceToNat, Int.reduceAdd, Int.reduceMul, Int.reduceSub, Int.reduceLT, Int.reduceLE, Int.reduceEq, Int.reduceNeg, Int.reduceBEq, Int.reduceBNe, ↓reduceIte, reduceCtorEq, h0', w1, hm, hm0, w2, w3, w4] <;> try simp (disch := omega) only [wrap_of])) | (refine hn _ _ ?_; clear hn hp Kn Kp) | (refine hp _ _ _ ?_; clear hn hp Kn Kp) | (refine awp_cond rfl (fun hb => ?_) (fun hb => ?_) <;> (try simp only [decide_eq_true_eq, decide_eq_false_iff_not, Bool.not_eq_true', Bool.not_eq_false', Bool.true_eq_false, Bool.false_eq_true, beq_iff_eq, bne_iff_ne, bne_eq_false_iff_eq, beq_eq_false_iff_ne, gt_iff_lt, ge_iff_le, Int.reduceEq, Int.reduceNe, Int.reduceLT, Int.reduceLE, ne_eq, not_true_eq_false, not_false_eq_true] at hb)) | ((first | refine awg_split (fun hb => ?_) (fun hb => ?_) | refine awsg_split (fun hb => ?_) (fun hb => ?_)) <;> have hb0 := hb <;> (try simp only [decide_eq_true_eq, decide_eq_false_iff_not, Bool.not_eq_true', Bool.not_eq_false', Bool.true_eq_false, Bool.false_eq_true, beq_iff_eq, bne_iff_ne, bne_eq_false_iff_eq, beq_eq_false_iff_ne, gt_iff_lt, ge_iff_le, Int.reduceEq, Int.reduceNe, Int.reduceLT, Int.reduceLE, ne_eq, not_true_eq_false, not_false_eq_true] at hb0) <;> (try simp only [beq_true, beq_false, Bool.not_eq_true', Bool.not_eq_false'] at hb) <;> (simp only [go_sem, Nat.reduceAdd, Nat.reduceSub, Nat.reduceMul, Nat.reduceLeDiff, Nat.reduceLT, Nat.reduceEqDiff, Int.reduceToNat, Int.reduceAdd, Int.reduceMul, Int.reduceSub, Int.reduceLT, Int.reduceLE, Int.reduceEq, Int.reduceNeg, Int.reduceBEq, Int.reduceBNe, ↓reduceIte, reduceCtorEq, h0', w1, hm, hm0, w2, w3, w4, hb, hb0] <;> try simp (disch := omega) only [wrap_of])) | (refine And.intro ?_ ?_) | ((show AWE _ _ _ _ _ _ _ _ _; refine awe_intro (ARun.lend 2 ( hin []) ?_ rfl) ?_); (· simp only [List.map_cons, List.map_nil, AV.low, AV.toPV, AV.toPVs, AV.toPVr, getO0, getOk, getS0, getSk, List.getElem?_cons_zero, List.getElem?_cons_succ, Nat.not_lt_zero, if_false, if_true, List.length_cons, List.length_nil, Nat.zero_le, and_self, and_true, true_and, List.drop_zero, List.take_succ_cons, List.take_zero, List.take_nil, Option.map_some, Nat.zero_add]; repeat' (first | exact trivial | exact Cv.refl _ | exact Cv.nil (Nat.succ_pos _) | exact PCv.refl _ | exact PCv.nil (Nat.succ_pos _) | refine And.intro ?_ ?_ | refine Cv.agg ?_ | refine Cv.pv (PCv.rs ?_) | refine PCv.rs ?_)); (simp only [go_sem, Nat.reduceAdd, Nat.reduceSub, Nat.reduceMul, Nat.reduceLeDiff, Nat.reduceLT, Nat.reduceEqDiff, Int.reduceToNat, Int.reduceAdd, Int.reduceMul, Int.reduceSub, Int.reduceLT, Int.reduceLE, Int.reduceEq, Int.reduceNeg, Int.reduceBEq, Int.reduceBNe, ↓reduceIte, reduceCtorEq, h0', w1, hm, hm0, w2, w3, w4] <;> try simp (disch := omega) only [wrap_of])) | ((show AWSF _ _ _ _ _ _ _ _ _ _ _; refine awsf_intro (ARun.lend 2 ( hin []) ?_ rfl) (fun hrun => ?_)); (· simp only [List.map_cons, List.map_nil, AV.low, AV.toPV, AV.toPVs, AV.toPVr, getO0, getOk, getS0, getSk, List.getElem?_cons_zero, List.getElem?_cons_succ, Nat.not_lt_zero, if_false, if_true, List.length_cons, List.length_nil, Nat.zero_le, and_self, and_true, true_and, List.drop_zero, List.take_succ_cons, List.take_zero, List.take_nil, Option.map_some, Nat.zero_add]; repeat' (first | exact trivial | exact Cv.refl _ | exact Cv.nil (Nat.succ_pos _) | exact PCv.refl _ | exact PCv.nil (Nat.succ_pos _) | refine And.intro ?_ ?_ | refine Cv.agg ?_ | refine Cv.pv (PCv.rs ?_) | refine PCv.rs ?_)); (simp only [go_sem, Nat.reduceAdd, Nat.reduceSub, Nat.reduceMul, Nat.reduceLeDiff, Nat.reduceLT, Nat.reduceEqDiff, Int.reduceToNat, Int.reduceAdd, Int.reduceMul, Int.reduceSub, Int.reduceLT, Int.reduceLE, Int.reduceEq, Int.reduceNeg, Int.reduceBEq, Int.reduceBNe, ↓reduceIte, reduceCtorEq, h0', w1, hm, hm0, w2, w3, w4] <;> try simp (disch := omega) only [wrap_of])) | ((show OGE _ _ _ _ _ _ _; refine oge_intro (ARun.lend 2 ( hin []) ?_ rfl) ?_); (· simp only [List.map_cons, List.map_nil, AV.low, AV.toPV, AV.toPVs, AV.toPVr, getO0, getOk, getS0, getSk, List.getElem?_cons_zero, List.getElem?_cons_succ, Nat.not_lt_zero, if_false, if_true, List.length_cons, List.length_nil, Nat.zero_le, and_self, and_true, true_and, List.drop_zero, List.take_succ_cons, List.take_zero, List.take_nil, Option.map_some, Nat.zero_add]; repeat' (first | exact trivial | exact Cv.refl _ | exact Cv.nil (Nat.succ_pos _) | exact PCv.refl _ | exact PCv.nil (Nat.succ_pos _) | refine And.intro ?_ ?_ | refine Cv.agg ?_ | refine Cv.pv (PCv.rs ?_) | refine PCv.rs ?_)); (simp only [go_sem, Nat.reduceAdd, Nat.reduceSub, Nat.reduceMul, Nat.reduceLeDiff, Nat.reduceLT, Nat.reduceEqDiff, Int.reduceToNat, Int.reduceAdd, Int.reduceMul, Int.reduceSub, Int.reduceLT, Int.reduceLE, Int.reduceEq, Int.reduceNeg, Int.reduceBEq, Int.reduceBNe, ↓reduceIte, reduceCtorEq, h0', w1, hm, hm0, w2, w3, w4] <;> try simp (disch := omega) only [wrap_of])) | ((show AWSE _ _ _ _ _ _ _ _ _ _ _; refine awse_intro (ARun.lend 2 ( hin []) ?_ rfl) (fun hrun => ?_)); (· simp only [List.map_cons, List.map_nil, AV.low, AV.toPV, AV.toPVs, AV.toPVr, getO0, getOk, getS0, getSk, List.getElem?_cons_zero, List.getElem?_cons_succ, Nat.not_lt_zero, if_false, if_true, List.length_cons, List.length_nil, Nat.zero_le, and_self, and_true, true_and, List.drop_zero, List.take_succ_cons, List.take_zero, List.take_nil, Option.map_some, Nat.zero_add]; repeat' (first | exact trivial | exact Cv.refl _ | exact Cv.nil (Nat.succ_pos _) | exact PCv.refl _ | exact PCv.nil (Nat.succ_pos _) | refine And.intro ?_ ?_ | refine Cv.agg ?_ | refine Cv.pv (PCv.rs ?_) | refine PCv.rs ?_)); (simp only [go_sem, Nat.reduceAdd, Nat.reduceSub, Nat.reduceMul, Nat.reduceLeDiff, Nat.reduceLT, Nat.reduceEqDiff, Int.reduceToNat, Int.reduceAdd, Int.reduceMul, Int.reduceSub, Int.reduceLT, Int.reduceLE, Int.reduceEq, Int.reduceNeg, Int.reduceBEq, Int.reduceBNe, ↓reduceIte, reduceCtorEq, h0', w1, hm, hm0, w2, w3, w4] <;> try simp (disch := omega) only [wrap_of])) | refine awp_skip ?_ | refine awp_ret ?_ | refine awp_exit ?_ | refine awp_label ?_ | refine awloop_step ?_ | fail)
      (refine resX ?_; try exact True.intro)
      all_goals rw [prodS_in h0 hm hbd]
theorem holds_run (a rel b : Int) (hr : 1 ≤ rel ∧ rel ≤ 6) (H0 : List AObj) : ARun Tryd.prog 40 [.i a, .i rel, .i b] H0 (.ret (.b (holdsS a rel b)) H0) := by
  have hc : rel = 1 ∨ rel = 2 ∨ rel = 3 ∨ rel = 4 ∨ rel = 5 ∨ rel = 6 := by omega
  clear hr
  rcases hc with rfl | rfl | rfl | rfl | rfl | rfl
  all_goals
    (refine ARun.intro Tryd.func40 rfl Tryd.call40 Tryd.ntmps40 Tryd.results40 ?_; simp only [List.length_cons, List.length_nil, List.length_map, Nat.reduceAdd, Nat.reduceSub, List.replicate_succ, List.replicate_zero, List.cons_append, List.nil_append])
    (refine wk ?_; (repeat' first | exact True.intro | refine Lf.mk ?_ ?_); all_goals intro hP)
    (refine resX ?_; try exact True.intro)
    all_goals simp [holdsS]
end Go.Proofs.YtimmncjdknlegaaDoor.Y
