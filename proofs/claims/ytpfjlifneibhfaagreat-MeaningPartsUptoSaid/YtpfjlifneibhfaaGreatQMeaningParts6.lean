/- Part 6 of the proofs of seat YtpfjlifneibhfaaGreat: what the texts behind it lean on (abstract memory, walks of functions, plain laws). -/
import Derived.Test.YtpfjlifneibhfaaGreatB5
set_option linter.unusedSectionVars false
set_option linter.unusedSimpArgs false
set_option linter.unusedVariables false
set_option maxHeartbeats 100000000
set_option maxRecDepth 100000
namespace Go.Proofs.YtpfjlifneibhfaaGreat.Y
open Go.Proofs.YtpfjlifneibhfaaGreat.AL Go.Proofs Go
attribute [local irreducible] AWP AWL AWG AWR AWE AWX AWO AWSeq AWSG AWSR AWSO AWSE AWSF GoodP OGW OGR OGE OGX PGW PGR PGE Wk AWLoop AWPD AWLD
theorem dr5_7_X30u : Drawn Tryz.prog 7 (regOps 7 ((Tryz.f5.body).getD .skip)) [12, 15] [] [.win [0], .win [0], .win [0, 1], .win [0, 1], .win [0], .win [0], .win [0], .win [0, 1], .win [0, 1], .win [0, 1], .win [0], .win [0], .eff 0, .win [0, 1], .win [1], .eff 1] 2 [] := ⟨rfl, by as_aux_lemma => kernel_rfl⟩
theorem PM.put {p : Prg} (h : PM p) {k : Nat} (hk : k < 5) {l : List St} (hl : wSL l ≤ wSL (handP p k)) : PM (putP p k l) :=
  ⟨by have := put_w hk hl; have := h.w; omega, h.l, h.z, h.zv⟩
theorem PM.only {p : Prg} (h : PM p) (k : Nat) : PM (onlyP p k) := ⟨by have := only_w (p := p) k; have := h.w; omega, h.l, h.z, h.zv⟩
theorem runM_is {p : Prg} {st : List Int} {x : Cal} (hc : callOk x = true) (hs : stIn p.vars st = true) (hv : validB p = true) : runM p st x = runP p.vars (handP p x.ev.toNat) st x := by
  unfold runM; rw [if_pos ⟨hc, hs, hv⟩]
theorem runM_put {p : Prg} {us : List Un} {st : List Int} {x : Cal} (hc : callOk x = true) (hs : stIn p.vars st = true) (hv : validB p = true) (V : Val p us) {l : List St} (hl : HOk us l) :
    runM (putP p x.ev.toNat l) st x = runP p.vars l st x := by
  have := call_ev hc
  rw [runM_is (p := putP p x.ev.toNat l) hc hs (put_valid hv V _ hl), put_hand (by omega)]
  rfl
theorem one_ne_zero' : ((1 : Nat) = 0) = False := by simp
theorem zero_ne_one' : ((0 : Nat) = 1) = False := by simp
theorem MeaningParts_run (p : Prg) (st : List Int) (x : Cal) (at' : Int) (ha0 : 0 ≤ at') (ha1 : at' ≤ 255) (hp : PF p) (H0 : List AObj) :
    ARun Tryz.prog 5 [.ag (cP p), .rs 1 (rI st), agL x, .pv (.sc (.int .u8 at'))] H0 (.ret (.b true) H0) := by
  have hh := fun H => head8_run H
  have hu := fun H => usable8_run p hp st x H
  cases huse : useB p st x with
  | false =>
    rw [huse] at hu
    (refine ARun.intro Tryz.func5 rfl Tryz.call5 Tryz.ntmps5 Tryz.results5 ?_; simp only [List.length_cons, List.length_nil, List.length_map, Nat.reduceAdd, Nat.reduceSub, List.replicate_succ, List.replicate_zero, List.cons_append, List.nil_append])
    (have rr1 := dr5_7_X30u; have cc1 := fun z1 => hh z1; have cc2 := fun z1 => hu z1; refine wk ?_; clear rr1 cc1 cc2; (repeat' first | exact True.intro | refine Lf.mk ?_ ?_); all_goals intro hP)
    (refine resX ?_; try exact True.intro)
  | true =>
    rw [huse] at hu
    obtain ⟨hfew, hv, hs, hc⟩ := useB_all huse
    have pm := hp.pm hfew
    obtain ⟨us, V⟩ := validB_val hv
    have hL := val_hok V x.ev.toNat
    have hev5 := call_ev hc
    have c1 := fun H => pm.mrun st x H
    rw [runM_is hc hs hv] at c1
    have hcm := runM_comes (x := x) hv hs
    have hfa := few5_all hfew
    have hpl : p.vars.length ≤ 20 := by omega
    have hlen : (handP p x.ev.toNat).length ≤ 3000 := by have := len_manyL (handP p x.ev.toNat); have := hL.2.2; omega
    have hsplit : ∀ k : Nat, runP p.vars (handP p x.ev.toNat) st x = match runP p.vars ((handP p x.ev.toNat).take k) st x with
        | .error z => .error z
        | .ok st' => runP p.vars ((handP p x.ev.toNat).drop k) st' x := fun k => by
      have := runStL_app (vs := p.vars) (i0 := x.i0) (i1 := x.i1) (i2 := x.i2) (i3 := x.i3) ((handP p x.ev.toNat).take k) ((handP p x.ev.toNat).drop k) st
      rw [List.take_append_drop] at this
      exact this
    have htk : ∀ k : Nat, HOk us ((handP p x.ev.toNat).take k) ∧ HOk us ((handP p x.ev.toNat).drop k) := fun k => HOk.split (by rw [List.take_append_drop]; exact hL)
    have hwk : ∀ k : Nat, wSL ((handP p x.ev.toNat).take k) ≤ wSL (handP p x.ev.toNat) ∧ wSL ((handP p x.ev.toNat).drop k) ≤ wSL (handP p x.ev.toNat) := fun k => by
      have := wSL_appM ((handP p x.ev.toNat).take k) ((handP p x.ev.toNat).drop k)
      rw [List.take_append_drop] at this
      omega
    have c2 := fun k H => (pm.put (k := x.ev.toNat) (by omega) (hwk k).1).mrun st x H
    have c3 := fun k st' H => (pm.put (k := x.ev.toNat) (by omega) (hwk k).2).mrun st' x H
    obtain ⟨k, hk, hkl⟩ : ∃ k : Nat, at'.tmod (((handP p x.ev.toNat).length : Int) + 1) = (k : Int) ∧ k ≤ (handP p x.ev.toNat).length := by
      have h1 := Int.emod_nonneg at' (show ((handP p x.ev.toNat).length : Int) + 1 ≠ 0 by omega)
      have h2 := Int.emod_lt_of_pos at' (show (0 : Int) < ((handP p x.ev.toNat).length : Int) + 1 by omega)
      refine ⟨(at'.tmod (((handP p x.ev.toNat).length : Int) + 1)).toNat, ?_, ?_⟩ <;> rw [Int.tmod_eq_emod_of_nonneg ha0] <;> omega
    replace c2 := c2 k
    replace c3 := c3 k
    replace hsplit := hsplit k
    have r2 := runM_put hc hs hv V (htk k).1
    have r3 := fun st' h => runM_put (st := st') hc h hv V (htk k).2
    rw [r2] at c2
    have hcm2 : RunTo p.vars (runP p.vars ((handP p x.ev.toNat).take k) st x) := runStL_comes V.len _ (htk k).1.1 st hs
    have hlm : ((handP p x.ev.toNat).take k).map encS = ((handP p x.ev.toNat).map encS).take k := by rw [List.map_take]
    have hlm2 : ((handP p x.ev.toNat).drop k).map encS = ((handP p x.ev.toNat).map encS).drop k := by rw [List.map_drop]
    have hw1 : IntKind.i64.wrap at' = at' := wrap_of (by omega) (by omega)
    have hw2 : IntKind.i64.wrap (((handP p x.ev.toNat).length : Int) + 1) = ((handP p x.ev.toNat).length : Int) + 1 := wrap_of (by omega) (by omega)
    have hn0 : ¬ ((handP p x.ev.toNat).length : Int) + 1 = 0 := by omega
    have hk0 : (k : Int) ≤ (handP p x.ev.toNat).length := by omega
    clear huse hfew hL
    obtain ⟨ev, i0, i1, i2, i3⟩ := x
    simp only at hev5
    have hev : ev = 0 ∨ ev = 1 ∨ ev = 2 ∨ ev = 3 ∨ ev = 4 := by omega
    clear htk hwk hfa
    rcases hev with rfl | rfl | rfl | rfl | rfl
    · obtain ⟨nm, vs, L, o1, o2, o3, o4, wn, pc⟩ := p
      simp only [Int.reduceToNat, Int.toNat_zero, Int.toNat_one, handP, if_true, if_false, Nat.reduceEqDiff, reduceIte, putP, onP, one_ne_zero', zero_ne_one'] at *
      (refine ARun.intro Tryz.func5 rfl Tryz.call5 Tryz.ntmps5 Tryz.results5 ?_; simp only [List.length_cons, List.length_nil, List.length_map, Nat.reduceAdd, Nat.reduceSub, List.replicate_succ, List.replicate_zero, List.cons_append, List.nil_append])
      (have rr1 := dr5_7_X30u; have ww1 := hw1; have ww2 := hw2; have ww3 := hn0; have ww4 := hk; have cc1 := fun z1 => hh z1; have cc2 := fun z1 => hu z1; refine wkS ?_; clear rr1 ww1 ww2 ww3 ww4 cc1 cc2; (repeat' first | exact True.intro | refine Lf.mk ?_ ?_); all_goals intro hP)
      refine awp_drawnO_c (id := 6) [2, 3, 4, 5] [([2, 3, 4, 5], [0, 1, 2, 3, 4, 5], [.win [0, 1, 2], .win [0, 1, 2, 3], .eff 0, .eff 1, .eff 2, .eff 3]), ([3, 2, 4, 5], [0, 1, 3, 2, 4, 5], [.win [0, 1, 2], .win [0, 1, 2, 3], .eff 1, .eff 0, .eff 2, .eff 3])] 4 rfl (by as_aux_lemma => kernel_rfl) ((.any :: .rs 1 (rI st) :: .any :: .any :: .p H0.length 0 :: .any :: .p (H0.length + 1) 0 :: .any :: .any :: .b true :: .rs 13 (L.map encS) :: .i k :: .p (H0.length + 2) 0 :: .p (H0.length + 3) 0 :: .any :: .any :: .any :: .any :: .any :: .any :: .any :: .any :: .any :: .any :: .any :: .any :: .any :: .any :: .any :: .any :: .any :: .any :: .any :: .any :: .any :: .any :: .any :: .any :: .any :: .any :: .any :: .any :: .any :: .any :: .any :: .any :: .any :: .any :: .any :: .any :: .any :: .any :: .any :: .any :: .any :: .any :: .any :: .any :: .any :: .any :: .any :: .any :: .any :: .any :: .any :: .any :: .any :: .any :: .any :: .any :: .any :: .any :: .any :: .any :: .any :: .any :: .any :: .any :: .any :: .any :: .any :: .any :: .any :: .any :: .any :: .any :: .any :: .any :: .any :: .any :: .any :: .any :: .any :: .any :: .any :: .any :: .any :: .any :: .any :: []))
        (H0 ++ [.cells 26 [.pv (.sc (.string nm)), .rs 5 (vs.map encV), .rs 13 (L.map encS), .rs 13 (o1.map encS), .rs 13 (o2.map encS), .rs 13 (o3.map encS), .rs 13 (o4.map encS), .i wn, .i pc], .cells 30 [.i 0, .i i0, .i i1, .i i2, .i i3], .cells 26 [.pv (.sc (.string nm)), .rs 5 (vs.map encV), .rs 13 (L.map encS), .rs 13 (o1.map encS), .rs 13 (o2.map encS), .rs 13 (o3.map encS), .rs 13 (o4.map encS), .i wn, .i pc], .cells 26 [.pv (.sc (.string nm)), .rs 5 (vs.map encV), .rs 13 (L.map encS), .rs 13 (o1.map encS), .rs 13 (o2.map encS), .rs 13 (o3.map encS), .rs 13 (o4.map encS), .i wn, .i pc]]) (fun tm H wk h => by simp only [AEx.thn] at h ⊢; exact awp_wk wk h) ?_ (fun Kp W hW => ?_)
      · simp only [AEx.thn]
        have q1 : (L.map encS).take (k - 0) = (L.take k).map encS := by rw [Nat.sub_zero, List.map_take]
        have q2 : List.take (L.length - k) (List.drop k (L.map encS)) = (L.drop k).map encS := by rw [← List.map_drop, List.take_of_length_le (by simp)]
        have q3 : ([] : List (List PV)).length = 0 := rfl
        cases h1 : runP vs (L.take k) st ⟨0, i0, i1, i2, i3⟩ with
        | error z =>
          rw [h1] at c2 hcm2 hsplit
          simp only at hsplit
          rw [hsplit] at c1
          simp only [RunTo] at hcm2
          simp only [runL, runE, List.map_nil] at c1 c2
          have hz : (z != 0) = true := by simp; omega
          (have rr1 := dr5_7_X30u; have ww1 := hk0; have ww2 := q1; have ww3 := q2; have ww4 := q3; have ww5 := hz; have cc1 := fun z1 => c1 z1; have cc2 := fun z1 => c2 z1; refine wkS ?_; clear rr1 ww1 ww2 ww3 ww4 ww5 cc1 cc2; (repeat' first | exact True.intro | refine Lf.mk ?_ ?_); all_goals intro hP)
          (refine resX ?_; try exact True.intro)
        | ok st1 =>
          rw [h1] at c2 hcm2 hsplit
          simp only at hsplit
          simp only [RunTo] at hcm2
          simp only [runL, runE] at c2
          replace c3 := c3 st1
          rw [r3 st1 hcm2] at c3
          rw [hsplit] at c1
          have hl9 : (runL (runP vs (L.drop k) st1 ⟨0, i0, i1, i2, i3⟩)).length ≤ 2000000 := by
            cases h9 : runP vs (L.drop k) st1 ⟨0, i0, i1, i2, i3⟩ with
            | error z => simp [runL]
            | ok s9 => have := runStL_len _ _ _ h9; have := stIn_len hcm2; simp only [runL]; omega
          have cI := fun H => Ints_run (runL (runP vs (L.drop k) st1 ⟨0, i0, i1, i2, i3⟩)) (runL (runP vs (L.drop k) st1 ⟨0, i0, i1, i2, i3⟩)) hl9 H
          rw [beq_self_eq_true] at cI
          generalize runP vs (L.drop k) st1 ⟨0, i0, i1, i2, i3⟩ = r9 at *
          generalize runL r9 = A9 at *
          generalize runE r9 = B9 at *
          (have rr1 := dr5_7_X30u; have ww1 := hk0; have ww2 := q1; have ww3 := q2; have cc1 := fun z1 => c1 z1; have cc2 := fun z1 => c2 z1; have cc3 := fun z1 => c3 z1; have cc4 := fun z1 => cI z1; refine wkS ?_; clear rr1 ww1 ww2 ww3 cc1 cc2 cc3 cc4; (repeat' first | exact True.intro | refine Lf.mk ?_ ?_); all_goals intro hP)
          (refine resX ?_; try exact True.intro)
      · simp only [List.forall_mem_cons, List.not_mem_nil, false_implies, implies_true, and_true, go_sem, Nat.reduceAdd, Nat.reduceSub, Nat.reduceMul, Nat.reduceLeDiff, Nat.reduceLT, Nat.reduceEqDiff, Int.reduceToNat, Int.reduceAdd, Int.reduceMul, Int.reduceSub, Int.reduceLT, Int.reduceLE, Int.reduceEq, Int.reduceNeg, Int.reduceBEq, Int.reduceBNe, ↓reduceIte, reduceCtorEq, pick, List.length_map]
        (have rr1 := dr5_7_X30u; refine wkS ?_; clear rr1; (repeat' first | exact True.intro | refine Lf.mk ?_ ?_); all_goals intro hP)
        all_goals (first | ((refine hW _ _ (Wk.perm0 [0, 1, 2, 3] (by decide) ?_ ?_)) <;> (simp only [PermL, FgtR, AObj.ren, AV.ren, AV.under, AObj.under, AL.perm_0, AL.perm_k, List.map_cons, List.map_nil, List.map_map, List.map_replicate, List.replicate_succ, List.getD_cons_zero, List.getD_cons_succ, List.getElem?_cons_zero, List.getElem?_cons_succ, List.length_cons, List.length_nil, Nat.add_zero, Nat.zero_add, Nat.reduceAdd, Nat.add_lt_add_iff_left, Nat.reduceLT, Nat.lt_add_right_iff_pos, List.forall_mem_cons, List.mem_cons, List.not_mem_nil, forall_eq_or_imp, forall_eq, false_implies, implies_true, reduceCtorEq, false_or, true_or, or_true, and_true, true_and, and_self, List.forall_mem_map, List.mem_map, forall_exists_index, and_imp, forall_apply_eq_imp_iff₂, Function.comp_def]) <;> (first | (intro a _ ha c hc; subst ha; simp only [List.mem_singleton] at hc; subst hc; simp only [AV.under]))) | ((refine hW _ _ (Wk.perm0 [0, 1, 3, 2] (by decide) ?_ ?_)) <;> (simp only [PermL, FgtR, AObj.ren, AV.ren, AV.under, AObj.under, AL.perm_0, AL.perm_k, List.map_cons, List.map_nil, List.map_map, List.map_replicate, List.replicate_succ, List.getD_cons_zero, List.getD_cons_succ, List.getElem?_cons_zero, List.getElem?_cons_succ, List.length_cons, List.length_nil, Nat.add_zero, Nat.zero_add, Nat.reduceAdd, Nat.add_lt_add_iff_left, Nat.reduceLT, Nat.lt_add_right_iff_pos, List.forall_mem_cons, List.mem_cons, List.not_mem_nil, forall_eq_or_imp, forall_eq, false_implies, implies_true, reduceCtorEq, false_or, true_or, or_true, and_true, true_and, and_self, List.forall_mem_map, List.mem_map, forall_exists_index, and_imp, forall_apply_eq_imp_iff₂, Function.comp_def]) <;> (first | (intro a _ ha c hc; subst ha; simp only [List.mem_singleton] at hc; subst hc; simp only [AV.under]))))
    · obtain ⟨nm, vs, o0, L, o2, o3, o4, wn, pc⟩ := p
      simp only [Int.reduceToNat, Int.toNat_zero, Int.toNat_one, handP, if_true, if_false, Nat.reduceEqDiff, reduceIte, putP, onP, one_ne_zero', zero_ne_one'] at *
      (refine ARun.intro Tryz.func5 rfl Tryz.call5 Tryz.ntmps5 Tryz.results5 ?_; simp only [List.length_cons, List.length_nil, List.length_map, Nat.reduceAdd, Nat.reduceSub, List.replicate_succ, List.replicate_zero, List.cons_append, List.nil_append])
      (have rr1 := dr5_7_X30u; have ww1 := hw1; have ww2 := hw2; have ww3 := hn0; have ww4 := hk; have cc1 := fun z1 => hh z1; have cc2 := fun z1 => hu z1; refine wkS ?_; clear rr1 ww1 ww2 ww3 ww4 cc1 cc2; (repeat' first | exact True.intro | refine Lf.mk ?_ ?_); all_goals intro hP)
      refine awp_drawnO_c (id := 6) [2, 3, 4, 5] [([2, 3, 4, 5], [0, 1, 2, 3, 4, 5], [.win [0, 1, 2], .win [0, 1, 2, 3], .eff 0, .eff 1, .eff 2, .eff 3]), ([3, 2, 4, 5], [0, 1, 3, 2, 4, 5], [.win [0, 1, 2], .win [0, 1, 2, 3], .eff 1, .eff 0, .eff 2, .eff 3])] 4 rfl (by as_aux_lemma => kernel_rfl) ((.any :: .rs 1 (rI st) :: .any :: .any :: .p H0.length 0 :: .any :: .p (H0.length + 1) 0 :: .any :: .any :: .b true :: .rs 13 (L.map encS) :: .i k :: .p (H0.length + 2) 0 :: .p (H0.length + 3) 0 :: .any :: .any :: .any :: .any :: .any :: .any :: .any :: .any :: .any :: .any :: .any :: .any :: .any :: .any :: .any :: .any :: .any :: .any :: .any :: .any :: .any :: .any :: .any :: .any :: .any :: .any :: .any :: .any :: .any :: .any :: .any :: .any :: .any :: .any :: .any :: .any :: .any :: .any :: .any :: .any :: .any :: .any :: .any :: .any :: .any :: .any :: .any :: .any :: .any :: .any :: .any :: .any :: .any :: .any :: .any :: .any :: .any :: .any :: .any :: .any :: .any :: .any :: .any :: .any :: .any :: .any :: .any :: .any :: .any :: .any :: .any :: .any :: .any :: .any :: .any :: .any :: .any :: .any :: .any :: .any :: .any :: .any :: .any :: .any :: .any :: []))
        (H0 ++ [.cells 26 [.pv (.sc (.string nm)), .rs 5 (vs.map encV), .rs 13 (o0.map encS), .rs 13 (L.map encS), .rs 13 (o2.map encS), .rs 13 (o3.map encS), .rs 13 (o4.map encS), .i wn, .i pc], .cells 30 [.i 1, .i i0, .i i1, .i i2, .i i3], .cells 26 [.pv (.sc (.string nm)), .rs 5 (vs.map encV), .rs 13 (o0.map encS), .rs 13 (L.map encS), .rs 13 (o2.map encS), .rs 13 (o3.map encS), .rs 13 (o4.map encS), .i wn, .i pc], .cells 26 [.pv (.sc (.string nm)), .rs 5 (vs.map encV), .rs 13 (o0.map encS), .rs 13 (L.map encS), .rs 13 (o2.map encS), .rs 13 (o3.map encS), .rs 13 (o4.map encS), .i wn, .i pc]]) (fun tm H wk h => by simp only [AEx.thn] at h ⊢; exact awp_wk wk h) ?_ (fun Kp W hW => ?_)
      · simp only [AEx.thn]
        have q1 : (L.map encS).take (k - 0) = (L.take k).map encS := by rw [Nat.sub_zero, List.map_take]
        have q2 : List.take (L.length - k) (List.drop k (L.map encS)) = (L.drop k).map encS := by rw [← List.map_drop, List.take_of_length_le (by simp)]
        have q3 : ([] : List (List PV)).length = 0 := rfl
        cases h1 : runP vs (L.take k) st ⟨1, i0, i1, i2, i3⟩ with
        | error z =>
          rw [h1] at c2 hcm2 hsplit
          simp only at hsplit
          rw [hsplit] at c1
          simp only [RunTo] at hcm2
          simp only [runL, runE, List.map_nil] at c1 c2
          have hz : (z != 0) = true := by simp; omega
          (have rr1 := dr5_7_X30u; have ww1 := hk0; have ww2 := q1; have ww3 := q2; have ww4 := q3; have ww5 := hz; have cc1 := fun z1 => c1 z1; have cc2 := fun z1 => c2 z1; refine wkS ?_; clear rr1 ww1 ww2 ww3 ww4 ww5 cc1 cc2; (repeat' first | exact True.intro | refine Lf.mk ?_ ?_); all_goals intro hP)
          (refine resX ?_; try exact True.intro)
        | ok st1 =>
          rw [h1] at c2 hcm2 hsplit
          simp only at hsplit
          simp only [RunTo] at hcm2
          simp only [runL, runE] at c2
          replace c3 := c3 st1
          rw [r3 st1 hcm2] at c3
          rw [hsplit] at c1
          have hl9 : (runL (runP vs (L.drop k) st1 ⟨1, i0, i1, i2, i3⟩)).length ≤ 2000000 := by
            cases h9 : runP vs (L.drop k) st1 ⟨1, i0, i1, i2, i3⟩ with
            | error z => simp [runL]
            | ok s9 => have := runStL_len _ _ _ h9; have := stIn_len hcm2; simp only [runL]; omega
          have cI := fun H => Ints_run (runL (runP vs (L.drop k) st1 ⟨1, i0, i1, i2, i3⟩)) (runL (runP vs (L.drop k) st1 ⟨1, i0, i1, i2, i3⟩)) hl9 H
          rw [beq_self_eq_true] at cI
          generalize runP vs (L.drop k) st1 ⟨1, i0, i1, i2, i3⟩ = r9 at *
          generalize runL r9 = A9 at *
          generalize runE r9 = B9 at *
          (have rr1 := dr5_7_X30u; have ww1 := hk0; have ww2 := q1; have ww3 := q2; have cc1 := fun z1 => c1 z1; have cc2 := fun z1 => c2 z1; have cc3 := fun z1 => c3 z1; have cc4 := fun z1 => cI z1; refine wkS ?_; clear rr1 ww1 ww2 ww3 cc1 cc2 cc3 cc4; (repeat' first | exact True.intro | refine Lf.mk ?_ ?_); all_goals intro hP)
          (refine resX ?_; try exact True.intro)
      · simp only [List.forall_mem_cons, List.not_mem_nil, false_implies, implies_true, and_true, go_sem, Nat.reduceAdd, Nat.reduceSub, Nat.reduceMul, Nat.reduceLeDiff, Nat.reduceLT, Nat.reduceEqDiff, Int.reduceToNat, Int.reduceAdd, Int.reduceMul, Int.reduceSub, Int.reduceLT, Int.reduceLE, Int.reduceEq, Int.reduceNeg, Int.reduceBEq, Int.reduceBNe, ↓reduceIte, reduceCtorEq, pick, List.length_map]
        (have rr1 := dr5_7_X30u; refine wkS ?_; clear rr1; (repeat' first | exact True.intro | refine Lf.mk ?_ ?_); all_goals intro hP)
        all_goals (first | ((refine hW _ _ (Wk.perm0 [0, 1, 2, 3] (by decide) ?_ ?_)) <;> (simp only [PermL, FgtR, AObj.ren, AV.ren, AV.under, AObj.under, AL.perm_0, AL.perm_k, List.map_cons, List.map_nil, List.map_map, List.map_replicate, List.replicate_succ, List.getD_cons_zero, List.getD_cons_succ, List.getElem?_cons_zero, List.getElem?_cons_succ, List.length_cons, List.length_nil, Nat.add_zero, Nat.zero_add, Nat.reduceAdd, Nat.add_lt_add_iff_left, Nat.reduceLT, Nat.lt_add_right_iff_pos, List.forall_mem_cons, List.mem_cons, List.not_mem_nil, forall_eq_or_imp, forall_eq, false_implies, implies_true, reduceCtorEq, false_or, true_or, or_true, and_true, true_and, and_self, List.forall_mem_map, List.mem_map, forall_exists_index, and_imp, forall_apply_eq_imp_iff₂, Function.comp_def]) <;> (first | (intro a _ ha c hc; subst ha; simp only [List.mem_singleton] at hc; subst hc; simp only [AV.under]))) | ((refine hW _ _ (Wk.perm0 [0, 1, 3, 2] (by decide) ?_ ?_)) <;> (simp only [PermL, FgtR, AObj.ren, AV.ren, AV.under, AObj.under, AL.perm_0, AL.perm_k, List.map_cons, List.map_nil, List.map_map, List.map_replicate, List.replicate_succ, List.getD_cons_zero, List.getD_cons_succ, List.getElem?_cons_zero, List.getElem?_cons_succ, List.length_cons, List.length_nil, Nat.add_zero, Nat.zero_add, Nat.reduceAdd, Nat.add_lt_add_iff_left, Nat.reduceLT, Nat.lt_add_right_iff_pos, List.forall_mem_cons, List.mem_cons, List.not_mem_nil, forall_eq_or_imp, forall_eq, false_implies, implies_true, reduceCtorEq, false_or, true_or, or_true, and_true, true_and, and_self, List.forall_mem_map, List.mem_map, forall_exists_index, and_imp, forall_apply_eq_imp_iff₂, Function.comp_def]) <;> (first | (intro a _ ha c hc; subst ha; simp only [List.mem_singleton] at hc; subst hc; simp only [AV.under]))))
    · obtain ⟨nm, vs, o0, o1, L, o3, o4, wn, pc⟩ := p
      simp only [Int.reduceToNat, Int.toNat_zero, Int.toNat_one, handP, if_true, if_false, Nat.reduceEqDiff, reduceIte, putP, onP, one_ne_zero', zero_ne_one'] at *
      (refine ARun.intro Tryz.func5 rfl Tryz.call5 Tryz.ntmps5 Tryz.results5 ?_; simp only [List.length_cons, List.length_nil, List.length_map, Nat.reduceAdd, Nat.reduceSub, List.replicate_succ, List.replicate_zero, List.cons_append, List.nil_append])
      (have rr1 := dr5_7_X30u; have ww1 := hw1; have ww2 := hw2; have ww3 := hn0; have ww4 := hk; have cc1 := fun z1 => hh z1; have cc2 := fun z1 => hu z1; refine wkS ?_; clear rr1 ww1 ww2 ww3 ww4 cc1 cc2; (repeat' first | exact True.intro | refine Lf.mk ?_ ?_); all_goals intro hP)
      refine awp_drawnO_c (id := 6) [2, 3, 4, 5] [([2, 3, 4, 5], [0, 1, 2, 3, 4, 5], [.win [0, 1, 2], .win [0, 1, 2, 3], .eff 0, .eff 1, .eff 2, .eff 3]), ([3, 2, 4, 5], [0, 1, 3, 2, 4, 5], [.win [0, 1, 2], .win [0, 1, 2, 3], .eff 1, .eff 0, .eff 2, .eff 3])] 4 rfl (by as_aux_lemma => kernel_rfl) ((.any :: .rs 1 (rI st) :: .any :: .any :: .p H0.length 0 :: .any :: .p (H0.length + 1) 0 :: .any :: .any :: .b true :: .rs 13 (L.map encS) :: .i k :: .p (H0.length + 2) 0 :: .p (H0.length + 3) 0 :: .any :: .any :: .any :: .any :: .any :: .any :: .any :: .any :: .any :: .any :: .any :: .any :: .any :: .any :: .any :: .any :: .any :: .any :: .any :: .any :: .any :: .any :: .any :: .any :: .any :: .any :: .any :: .any :: .any :: .any :: .any :: .any :: .any :: .any :: .any :: .any :: .any :: .any :: .any :: .any :: .any :: .any :: .any :: .any :: .any :: .any :: .any :: .any :: .any :: .any :: .any :: .any :: .any :: .any :: .any :: .any :: .any :: .any :: .any :: .any :: .any :: .any :: .any :: .any :: .any :: .any :: .any :: .any :: .any :: .any :: .any :: .any :: .any :: .any :: .any :: .any :: .any :: .any :: .any :: .any :: .any :: .any :: .any :: .any :: .any :: []))
        (H0 ++ [.cells 26 [.pv (.sc (.string nm)), .rs 5 (vs.map encV), .rs 13 (o0.map encS), .rs 13 (o1.map encS), .rs 13 (L.map encS), .rs 13 (o3.map encS), .rs 13 (o4.map encS), .i wn, .i pc], .cells 30 [.i 2, .i i0, .i i1, .i i2, .i i3], .cells 26 [.pv (.sc (.string nm)), .rs 5 (vs.map encV), .rs 13 (o0.map encS), .rs 13 (o1.map encS), .rs 13 (L.map encS), .rs 13 (o3.map encS), .rs 13 (o4.map encS), .i wn, .i pc], .cells 26 [.pv (.sc (.string nm)), .rs 5 (vs.map encV), .rs 13 (o0.map encS), .rs 13 (o1.map encS), .rs 13 (L.map encS), .rs 13 (o3.map encS), .rs 13 (o4.map encS), .i wn, .i pc]]) (fun tm H wk h => by simp only [AEx.thn] at h ⊢; exact awp_wk wk h) ?_ (fun Kp W hW => ?_)
      · simp only [AEx.thn]
        have q1 : (L.map encS).take (k - 0) = (L.take k).map encS := by rw [Nat.sub_zero, List.map_take]
        have q2 : List.take (L.length - k) (List.drop k (L.map encS)) = (L.drop k).map encS := by rw [← List.map_drop, List.take_of_length_le (by simp)]
        have q3 : ([] : List (List PV)).length = 0 := rfl
        cases h1 : runP vs (L.take k) st ⟨2, i0, i1, i2, i3⟩ with
        | error z =>
          rw [h1] at c2 hcm2 hsplit
          simp only at hsplit
          rw [hsplit] at c1
          simp only [RunTo] at hcm2
          simp only [runL, runE, List.map_nil] at c1 c2
          have hz : (z != 0) = true := by simp; omega
          (have rr1 := dr5_7_X30u; have ww1 := hk0; have ww2 := q1; have ww3 := q2; have ww4 := q3; have ww5 := hz; have cc1 := fun z1 => c1 z1; have cc2 := fun z1 => c2 z1; refine wkS ?_; clear rr1 ww1 ww2 ww3 ww4 ww5 cc1 cc2; (repeat' first | exact True.intro | refine Lf.mk ?_ ?_); all_goals intro hP)
          (refine resX ?_; try exact True.intro)
        | ok st1 =>
          rw [h1] at c2 hcm2 hsplit
          simp only at hsplit
          simp only [RunTo] at hcm2
          simp only [runL, runE] at c2
          replace c3 := c3 st1
          rw [r3 st1 hcm2] at c3
          rw [hsplit] at c1
          have hl9 : (runL (runP vs (L.drop k) st1 ⟨2, i0, i1, i2, i3⟩)).length ≤ 2000000 := by
            cases h9 : runP vs (L.drop k) st1 ⟨2, i0, i1, i2, i3⟩ with
            | error z => simp [runL]
            | ok s9 => have := runStL_len _ _ _ h9; have := stIn_len hcm2; simp only [runL]; omega
          have cI := fun H => Ints_run (runL (runP vs (L.drop k) st1 ⟨2, i0, i1, i2, i3⟩)) (runL (runP vs (L.drop k) st1 ⟨2, i0, i1, i2, i3⟩)) hl9 H
          rw [beq_self_eq_true] at cI
          generalize runP vs (L.drop k) st1 ⟨2, i0, i1, i2, i3⟩ = r9 at *
          generalize runL r9 = A9 at *
          generalize runE r9 = B9 at *
          (have rr1 := dr5_7_X30u; have ww1 := hk0; have ww2 := q1; have ww3 := q2; have cc1 := fun z1 => c1 z1; have cc2 := fun z1 => c2 z1; have cc3 := fun z1 => c3 z1; have cc4 := fun z1 => cI z1; refine wkS ?_; clear rr1 ww1 ww2 ww3 cc1 cc2 cc3 cc4; (repeat' first | exact True.intro | refine Lf.mk ?_ ?_); all_goals intro hP)
          (refine resX ?_; try exact True.intro)
      · simp only [List.forall_mem_cons, List.not_mem_nil, false_implies, implies_true, and_true, go_sem, Nat.reduceAdd, Nat.reduceSub, Nat.reduceMul, Nat.reduceLeDiff, Nat.reduceLT, Nat.reduceEqDiff, Int.reduceToNat, Int.reduceAdd, Int.reduceMul, Int.reduceSub, Int.reduceLT, Int.reduceLE, Int.reduceEq, Int.reduceNeg, Int.reduceBEq, Int.reduceBNe, ↓reduceIte, reduceCtorEq, pick, List.length_map]
        (have rr1 := dr5_7_X30u; refine wkS ?_; clear rr1; (repeat' first | exact True.intro | refine Lf.mk ?_ ?_); all_goals intro hP)
        all_goals (first | ((refine hW _ _ (Wk.perm0 [0, 1, 2, 3] (by decide) ?_ ?_)) <;> (simp only [PermL, FgtR, AObj.ren, AV.ren, AV.under, AObj.under, AL.perm_0, AL.perm_k, List.map_cons, List.map_nil, List.map_map, List.map_replicate, List.replicate_succ, List.getD_cons_zero, List.getD_cons_succ, List.getElem?_cons_zero, List.getElem?_cons_succ, List.length_cons, List.length_nil, Nat.add_zero, Nat.zero_add, Nat.reduceAdd, Nat.add_lt_add_iff_left, Nat.reduceLT, Nat.lt_add_right_iff_pos, List.forall_mem_cons, List.mem_cons, List.not_mem_nil, forall_eq_or_imp, forall_eq, false_implies, implies_true, reduceCtorEq, false_or, true_or, or_true, and_true, true_and, and_self, List.forall_mem_map, List.mem_map, forall_exists_index, and_imp, forall_apply_eq_imp_iff₂, Function.comp_def]) <;> (first | (intro a _ ha c hc; subst ha; simp only [List.mem_singleton] at hc; subst hc; simp only [AV.under]))) | ((refine hW _ _ (Wk.perm0 [0, 1, 3, 2] (by decide) ?_ ?_)) <;> (simp only [PermL, FgtR, AObj.ren, AV.ren, AV.under, AObj.under, AL.perm_0, AL.perm_k, List.map_cons, List.map_nil, List.map_map, List.map_replicate, List.replicate_succ, List.getD_cons_zero, List.getD_cons_succ, List.getElem?_cons_zero, List.getElem?_cons_succ, List.length_cons, List.length_nil, Nat.add_zero, Nat.zero_add, Nat.reduceAdd, Nat.add_lt_add_iff_left, Nat.reduceLT, Nat.lt_add_right_iff_pos, List.forall_mem_cons, List.mem_cons, List.not_mem_nil, forall_eq_or_imp, forall_eq, false_implies, implies_true, reduceCtorEq, false_or, true_or, or_true, and_true, true_and, and_self, List.forall_mem_map, List.mem_map, forall_exists_index, and_imp, forall_apply_eq_imp_iff₂, Function.comp_def]) <;> (first | (intro a _ ha c hc; subst ha; simp only [List.mem_singleton] at hc; subst hc; simp only [AV.under]))))
    · obtain ⟨nm, vs, o0, o1, o2, L, o4, wn, pc⟩ := p
      simp only [Int.reduceToNat, Int.toNat_zero, Int.toNat_one, handP, if_true, if_false, Nat.reduceEqDiff, reduceIte, putP, onP, one_ne_zero', zero_ne_one'] at *
      (refine ARun.intro Tryz.func5 rfl Tryz.call5 Tryz.ntmps5 Tryz.results5 ?_; simp only [List.length_cons, List.length_nil, List.length_map, Nat.reduceAdd, Nat.reduceSub, List.replicate_succ, List.replicate_zero, List.cons_append, List.nil_append])
      (have rr1 := dr5_7_X30u; have ww1 := hw1; have ww2 := hw2; have ww3 := hn0; have ww4 := hk; have cc1 := fun z1 => hh z1; have cc2 := fun z1 => hu z1; refine wkS ?_; clear rr1 ww1 ww2 ww3 ww4 cc1 cc2; (repeat' first | exact True.intro | refine Lf.mk ?_ ?_); all_goals intro hP)
      refine awp_drawnO_c (id := 6) [2, 3, 4, 5] [([2, 3, 4, 5], [0, 1, 2, 3, 4, 5], [.win [0, 1, 2], .win [0, 1, 2, 3], .eff 0, .eff 1, .eff 2, .eff 3]), ([3, 2, 4, 5], [0, 1, 3, 2, 4, 5], [.win [0, 1, 2], .win [0, 1, 2, 3], .eff 1, .eff 0, .eff 2, .eff 3])] 4 rfl (by as_aux_lemma => kernel_rfl) ((.any :: .rs 1 (rI st) :: .any :: .any :: .p H0.length 0 :: .any :: .p (H0.length + 1) 0 :: .any :: .any :: .b true :: .rs 13 (L.map encS) :: .i k :: .p (H0.length + 2) 0 :: .p (H0.length + 3) 0 :: .any :: .any :: .any :: .any :: .any :: .any :: .any :: .any :: .any :: .any :: .any :: .any :: .any :: .any :: .any :: .any :: .any :: .any :: .any :: .any :: .any :: .any :: .any :: .any :: .any :: .any :: .any :: .any :: .any :: .any :: .any :: .any :: .any :: .any :: .any :: .any :: .any :: .any :: .any :: .any :: .any :: .any :: .any :: .any :: .any :: .any :: .any :: .any :: .any :: .any :: .any :: .any :: .any :: .any :: .any :: .any :: .any :: .any :: .any :: .any :: .any :: .any :: .any :: .any :: .any :: .any :: .any :: .any :: .any :: .any :: .any :: .any :: .any :: .any :: .any :: .any :: .any :: .any :: .any :: .any :: .any :: .any :: .any :: .any :: .any :: []))
        (H0 ++ [.cells 26 [.pv (.sc (.string nm)), .rs 5 (vs.map encV), .rs 13 (o0.map encS), .rs 13 (o1.map encS), .rs 13 (o2.map encS), .rs 13 (L.map encS), .rs 13 (o4.map encS), .i wn, .i pc], .cells 30 [.i 3, .i i0, .i i1, .i i2, .i i3], .cells 26 [.pv (.sc (.string nm)), .rs 5 (vs.map encV), .rs 13 (o0.map encS), .rs 13 (o1.map encS), .rs 13 (o2.map encS), .rs 13 (L.map encS), .rs 13 (o4.map encS), .i wn, .i pc], .cells 26 [.pv (.sc (.string nm)), .rs 5 (vs.map encV), .rs 13 (o0.map encS), .rs 13 (o1.map encS), .rs 13 (o2.map encS), .rs 13 (L.map encS), .rs 13 (o4.map encS), .i wn, .i pc]]) (fun tm H wk h => by simp only [AEx.thn] at h ⊢; exact awp_wk wk h) ?_ (fun Kp W hW => ?_)
      · simp only [AEx.thn]
        have q1 : (L.map encS).take (k - 0) = (L.take k).map encS := by rw [Nat.sub_zero, List.map_take]
        have q2 : List.take (L.length - k) (List.drop k (L.map encS)) = (L.drop k).map encS := by rw [← List.map_drop, List.take_of_length_le (by simp)]
        have q3 : ([] : List (List PV)).length = 0 := rfl
        cases h1 : runP vs (L.take k) st ⟨3, i0, i1, i2, i3⟩ with
        | error z =>
          rw [h1] at c2 hcm2 hsplit
          simp only at hsplit
          rw [hsplit] at c1
          simp only [RunTo] at hcm2
          simp only [runL, runE, List.map_nil] at c1 c2
          have hz : (z != 0) = true := by simp; omega
          (have rr1 := dr5_7_X30u; have ww1 := hk0; have ww2 := q1; have ww3 := q2; have ww4 := q3; have ww5 := hz; have cc1 := fun z1 => c1 z1; have cc2 := fun z1 => c2 z1; refine wkS ?_; clear rr1 ww1 ww2 ww3 ww4 ww5 cc1 cc2; (repeat' first | exact True.intro | refine Lf.mk ?_ ?_); all_goals intro hP)
          (refine resX ?_; try exact True.intro)
        | ok st1 =>
          rw [h1] at c2 hcm2 hsplit
          simp only at hsplit
          simp only [RunTo] at hcm2
          simp only [runL, runE] at c2
          replace c3 := c3 st1
          rw [r3 st1 hcm2] at c3
          rw [hsplit] at c1
          have hl9 : (runL (runP vs (L.drop k) st1 ⟨3, i0, i1, i2, i3⟩)).length ≤ 2000000 := by
            cases h9 : runP vs (L.drop k) st1 ⟨3, i0, i1, i2, i3⟩ with
            | error z => simp [runL]
            | ok s9 => have := runStL_len _ _ _ h9; have := stIn_len hcm2; simp only [runL]; omega
          have cI := fun H => Ints_run (runL (runP vs (L.drop k) st1 ⟨3, i0, i1, i2, i3⟩)) (runL (runP vs (L.drop k) st1 ⟨3, i0, i1, i2, i3⟩)) hl9 H
          rw [beq_self_eq_true] at cI
          generalize runP vs (L.drop k) st1 ⟨3, i0, i1, i2, i3⟩ = r9 at *
          generalize runL r9 = A9 at *
          generalize runE r9 = B9 at *
          (have rr1 := dr5_7_X30u; have ww1 := hk0; have ww2 := q1; have ww3 := q2; have cc1 := fun z1 => c1 z1; have cc2 := fun z1 => c2 z1; have cc3 := fun z1 => c3 z1; have cc4 := fun z1 => cI z1; refine wkS ?_; clear rr1 ww1 ww2 ww3 cc1 cc2 cc3 cc4; (repeat' first | exact True.intro | refine Lf.mk ?_ ?_); all_goals intro hP)
          (refine resX ?_; try exact True.intro)
      · simp only [List.forall_mem_cons, List.not_mem_nil, false_implies, implies_true, and_true, go_sem, Nat.reduceAdd, Nat.reduceSub, Nat.reduceMul, Nat.reduceLeDiff, Nat.reduceLT, Nat.reduceEqDiff, Int.reduceToNat, Int.reduceAdd, Int.reduceMul, Int.reduceSub, Int.reduceLT, Int.reduceLE, Int.reduceEq, Int.reduceNeg, Int.reduceBEq, Int.reduceBNe, ↓reduceIte, reduceCtorEq, pick, List.length_map]
        (have rr1 := dr5_7_X30u; refine wkS ?_; clear rr1; (repeat' first | exact True.intro | refine Lf.mk ?_ ?_); all_goals intro hP)
        all_goals (first | ((refine hW _ _ (Wk.perm0 [0, 1, 2, 3] (by decide) ?_ ?_)) <;> (simp only [PermL, FgtR, AObj.ren, AV.ren, AV.under, AObj.under, AL.perm_0, AL.perm_k, List.map_cons, List.map_nil, List.map_map, List.map_replicate, List.replicate_succ, List.getD_cons_zero, List.getD_cons_succ, List.getElem?_cons_zero, List.getElem?_cons_succ, List.length_cons, List.length_nil, Nat.add_zero, Nat.zero_add, Nat.reduceAdd, Nat.add_lt_add_iff_left, Nat.reduceLT, Nat.lt_add_right_iff_pos, List.forall_mem_cons, List.mem_cons, List.not_mem_nil, forall_eq_or_imp, forall_eq, false_implies, implies_true, reduceCtorEq, false_or, true_or, or_true, and_true, true_and, and_self, List.forall_mem_map, List.mem_map, forall_exists_index, and_imp, forall_apply_eq_imp_iff₂, Function.comp_def]) <;> (first | (intro a _ ha c hc; subst ha; simp only [List.mem_singleton] at hc; subst hc; simp only [AV.under]))) | ((refine hW _ _ (Wk.perm0 [0, 1, 3, 2] (by decide) ?_ ?_)) <;> (simp only [PermL, FgtR, AObj.ren, AV.ren, AV.under, AObj.under, AL.perm_0, AL.perm_k, List.map_cons, List.map_nil, List.map_map, List.map_replicate, List.replicate_succ, List.getD_cons_zero, List.getD_cons_succ, List.getElem?_cons_zero, List.getElem?_cons_succ, List.length_cons, List.length_nil, Nat.add_zero, Nat.zero_add, Nat.reduceAdd, Nat.add_lt_add_iff_left, Nat.reduceLT, Nat.lt_add_right_iff_pos, List.forall_mem_cons, List.mem_cons, List.not_mem_nil, forall_eq_or_imp, forall_eq, false_implies, implies_true, reduceCtorEq, false_or, true_or, or_true, and_true, true_and, and_self, List.forall_mem_map, List.mem_map, forall_exists_index, and_imp, forall_apply_eq_imp_iff₂, Function.comp_def]) <;> (first | (intro a _ ha c hc; subst ha; simp only [List.mem_singleton] at hc; subst hc; simp only [AV.under]))))
    · obtain ⟨nm, vs, o0, o1, o2, o3, L, wn, pc⟩ := p
      simp only [Int.reduceToNat, Int.toNat_zero, Int.toNat_one, handP, if_true, if_false, Nat.reduceEqDiff, reduceIte, putP, onP, one_ne_zero', zero_ne_one'] at *
      (refine ARun.intro Tryz.func5 rfl Tryz.call5 Tryz.ntmps5 Tryz.results5 ?_; simp only [List.length_cons, List.length_nil, List.length_map, Nat.reduceAdd, Nat.reduceSub, List.replicate_succ, List.replicate_zero, List.cons_append, List.nil_append])
      (have rr1 := dr5_7_X30u; have ww1 := hw1; have ww2 := hw2; have ww3 := hn0; have ww4 := hk; have cc1 := fun z1 => hh z1; have cc2 := fun z1 => hu z1; refine wkS ?_; clear rr1 ww1 ww2 ww3 ww4 cc1 cc2; (repeat' first | exact True.intro | refine Lf.mk ?_ ?_); all_goals intro hP)
      refine awp_drawnO_c (id := 6) [2, 3, 4, 5] [([2, 3, 4, 5], [0, 1, 2, 3, 4, 5], [.win [0, 1, 2], .win [0, 1, 2, 3], .eff 0, .eff 1, .eff 2, .eff 3]), ([3, 2, 4, 5], [0, 1, 3, 2, 4, 5], [.win [0, 1, 2], .win [0, 1, 2, 3], .eff 1, .eff 0, .eff 2, .eff 3])] 4 rfl (by as_aux_lemma => kernel_rfl) ((.any :: .rs 1 (rI st) :: .any :: .any :: .p H0.length 0 :: .any :: .p (H0.length + 1) 0 :: .any :: .any :: .b true :: .rs 13 (L.map encS) :: .i k :: .p (H0.length + 2) 0 :: .p (H0.length + 3) 0 :: .any :: .any :: .any :: .any :: .any :: .any :: .any :: .any :: .any :: .any :: .any :: .any :: .any :: .any :: .any :: .any :: .any :: .any :: .any :: .any :: .any :: .any :: .any :: .any :: .any :: .any :: .any :: .any :: .any :: .any :: .any :: .any :: .any :: .any :: .any :: .any :: .any :: .any :: .any :: .any :: .any :: .any :: .any :: .any :: .any :: .any :: .any :: .any :: .any :: .any :: .any :: .any :: .any :: .any :: .any :: .any :: .any :: .any :: .any :: .any :: .any :: .any :: .any :: .any :: .any :: .any :: .any :: .any :: .any :: .any :: .any :: .any :: .any :: .any :: .any :: .any :: .any :: .any :: .any :: .any :: .any :: .any :: .any :: .any :: .any :: []))
        (H0 ++ [.cells 26 [.pv (.sc (.string nm)), .rs 5 (vs.map encV), .rs 13 (o0.map encS), .rs 13 (o1.map encS), .rs 13 (o2.map encS), .rs 13 (o3.map encS), .rs 13 (L.map encS), .i wn, .i pc], .cells 30 [.i 4, .i i0, .i i1, .i i2, .i i3], .cells 26 [.pv (.sc (.string nm)), .rs 5 (vs.map encV), .rs 13 (o0.map encS), .rs 13 (o1.map encS), .rs 13 (o2.map encS), .rs 13 (o3.map encS), .rs 13 (L.map encS), .i wn, .i pc], .cells 26 [.pv (.sc (.string nm)), .rs 5 (vs.map encV), .rs 13 (o0.map encS), .rs 13 (o1.map encS), .rs 13 (o2.map encS), .rs 13 (o3.map encS), .rs 13 (L.map encS), .i wn, .i pc]]) (fun tm H wk h => by simp only [AEx.thn] at h ⊢; exact awp_wk wk h) ?_ (fun Kp W hW => ?_)
      · simp only [AEx.thn]
        have q1 : (L.map encS).take (k - 0) = (L.take k).map encS := by rw [Nat.sub_zero, List.map_take]
        have q2 : List.take (L.length - k) (List.drop k (L.map encS)) = (L.drop k).map encS := by rw [← List.map_drop, List.take_of_length_le (by simp)]
        have q3 : ([] : List (List PV)).length = 0 := rfl
        cases h1 : runP vs (L.take k) st ⟨4, i0, i1, i2, i3⟩ with
        | error z =>
          rw [h1] at c2 hcm2 hsplit
          simp only at hsplit
          rw [hsplit] at c1
          simp only [RunTo] at hcm2
          simp only [runL, runE, List.map_nil] at c1 c2
          have hz : (z != 0) = true := by simp; omega
          (have rr1 := dr5_7_X30u; have ww1 := hk0; have ww2 := q1; have ww3 := q2; have ww4 := q3; have ww5 := hz; have cc1 := fun z1 => c1 z1; have cc2 := fun z1 => c2 z1; refine wkS ?_; clear rr1 ww1 ww2 ww3 ww4 ww5 cc1 cc2; (repeat' first | exact True.intro | refine Lf.mk ?_ ?_); all_goals intro hP)
          (refine resX ?_; try exact True.intro)
        | ok st1 =>
          rw [h1] at c2 hcm2 hsplit
          simp only at hsplit
          simp only [RunTo] at hcm2
          simp only [runL, runE] at c2
          replace c3 := c3 st1
          rw [r3 st1 hcm2] at c3
          rw [hsplit] at c1
          have hl9 : (runL (runP vs (L.drop k) st1 ⟨4, i0, i1, i2, i3⟩)).length ≤ 2000000 := by
            cases h9 : runP vs (L.drop k) st1 ⟨4, i0, i1, i2, i3⟩ with
            | error z => simp [runL]
            | ok s9 => have := runStL_len _ _ _ h9; have := stIn_len hcm2; simp only [runL]; omega
          have cI := fun H => Ints_run (runL (runP vs (L.drop k) st1 ⟨4, i0, i1, i2, i3⟩)) (runL (runP vs (L.drop k) st1 ⟨4, i0, i1, i2, i3⟩)) hl9 H
          rw [beq_self_eq_true] at cI
          generalize runP vs (L.drop k) st1 ⟨4, i0, i1, i2, i3⟩ = r9 at *
          generalize runL r9 = A9 at *
          generalize runE r9 = B9 at *
          (have rr1 := dr5_7_X30u; have ww1 := hk0; have ww2 := q1; have ww3 := q2; have cc1 := fun z1 => c1 z1; have cc2 := fun z1 => c2 z1; have cc3 := fun z1 => c3 z1; have cc4 := fun z1 => cI z1; refine wkS ?_; clear rr1 ww1 ww2 ww3 cc1 cc2 cc3 cc4; (repeat' first | exact True.intro | refine Lf.mk ?_ ?_); all_goals intro hP)
          (refine resX ?_; try exact True.intro)
      · simp only [List.forall_mem_cons, List.not_mem_nil, false_implies, implies_true, and_true, go_sem, Nat.reduceAdd, Nat.reduceSub, Nat.reduceMul, Nat.reduceLeDiff, Nat.reduceLT, Nat.reduceEqDiff, Int.reduceToNat, Int.reduceAdd, Int.reduceMul, Int.reduceSub, Int.reduceLT, Int.reduceLE, Int.reduceEq, Int.reduceNeg, Int.reduceBEq, Int.reduceBNe, ↓reduceIte, reduceCtorEq, pick, List.length_map]
        (have rr1 := dr5_7_X30u; refine wkS ?_; clear rr1; (repeat' first | exact True.intro | refine Lf.mk ?_ ?_); all_goals intro hP)
        all_goals (first | ((refine hW _ _ (Wk.perm0 [0, 1, 2, 3] (by decide) ?_ ?_)) <;> (simp only [PermL, FgtR, AObj.ren, AV.ren, AV.under, AObj.under, AL.perm_0, AL.perm_k, List.map_cons, List.map_nil, List.map_map, List.map_replicate, List.replicate_succ, List.getD_cons_zero, List.getD_cons_succ, List.getElem?_cons_zero, List.getElem?_cons_succ, List.length_cons, List.length_nil, Nat.add_zero, Nat.zero_add, Nat.reduceAdd, Nat.add_lt_add_iff_left, Nat.reduceLT, Nat.lt_add_right_iff_pos, List.forall_mem_cons, List.mem_cons, List.not_mem_nil, forall_eq_or_imp, forall_eq, false_implies, implies_true, reduceCtorEq, false_or, true_or, or_true, and_true, true_and, and_self, List.forall_mem_map, List.mem_map, forall_exists_index, and_imp, forall_apply_eq_imp_iff₂, Function.comp_def]) <;> (first | (intro a _ ha c hc; subst ha; simp only [List.mem_singleton] at hc; subst hc; simp only [AV.under]))) | ((refine hW _ _ (Wk.perm0 [0, 1, 3, 2] (by decide) ?_ ?_)) <;> (simp only [PermL, FgtR, AObj.ren, AV.ren, AV.under, AObj.under, AL.perm_0, AL.perm_k, List.map_cons, List.map_nil, List.map_map, List.map_replicate, List.replicate_succ, List.getD_cons_zero, List.getD_cons_succ, List.getElem?_cons_zero, List.getElem?_cons_succ, List.length_cons, List.length_nil, Nat.add_zero, Nat.zero_add, Nat.reduceAdd, Nat.add_lt_add_iff_left, Nat.reduceLT, Nat.lt_add_right_iff_pos, List.forall_mem_cons, List.mem_cons, List.not_mem_nil, forall_eq_or_imp, forall_eq, false_implies, implies_true, reduceCtorEq, false_or, true_or, or_true, and_true, true_and, and_self, List.forall_mem_map, List.mem_map, forall_exists_index, and_imp, forall_apply_eq_imp_iff₂, Function.comp_def]) <;> (first | (intro a _ ha c hc; subst ha; simp only [List.mem_singleton] at hc; subst hc; simp only [AV.under]))))
end Go.Proofs.YtpfjlifneibhfaaGreat.Y
