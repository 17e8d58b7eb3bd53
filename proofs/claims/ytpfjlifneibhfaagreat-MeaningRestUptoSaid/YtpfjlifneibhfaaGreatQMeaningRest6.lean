/- Part 6 of the proofs of seat YtpfjlifneibhfaaGreat: what the texts behind it lean on (abstract memory, walks of functions, plain laws). -/
import Derived.Test.YtpfjlifneibhfaaGreatB5
set_option linter.unusedSectionVars false
set_option linter.unusedSimpArgs false
set_option linter.unusedVariables false
set_option maxHeartbeats 100000000
set_option maxRecDepth 100000
namespace Go.Proofs.YtpfjlifneibhfaaGreat.Y
open Go.Proofs.YtpfjlifneibhfaaGreat.AL Go.Proofs Go
attribute [local irreducible] AWP AWL AWG AWR AWE AWX AWO AWSeq AWSG AWSR AWSO AWSE AWSF GoodP OGW OGR OGE OGX PGW PGR PGE Wk AWLoop AWPD AWLD
theorem assigns8_run (x : Int) : ∀ (N : Nat) (l : List St), totL l ≤ N → totL l ≤ 1000000000 → ∀ (H0 : List AObj), ARun Tryz.prog 23 [.rs 13 (l.map encS), .i x] H0 (.ret (.b (asgL l x)) H0) := by
  intro N
  induction N with
  | zero =>
    intro l hN _ H0
    have hl : l = [] := by have := len_totL l; exact List.eq_nil_of_length_eq_zero (by omega)
    subst hl
    (refine ARun.intro Tryz.func23 rfl Tryz.call23 Tryz.ntmps23 Tryz.results23 ?_; simp only [List.length_cons, List.length_nil, List.length_map, Nat.reduceAdd, Nat.reduceSub, List.replicate_succ, List.replicate_zero, List.cons_append, List.nil_append])
    (refine wk ?_; (repeat' first | exact True.intro | refine Lf.mk ?_ ?_); all_goals intro hP)
    refine awp_loop 1 ?_
    (refine wkO ?_; (repeat' first | exact True.intro | refine Lf.mk ?_ ?_); all_goals intro hP)
    (refine resX ?_; try exact True.intro)
  | succ N ihN =>
    intro l hN hb0 H0
    have hll : l.length ≤ 1000000000 := by have := len_totL l; omega
    (refine ARun.intro Tryz.func23 rfl Tryz.call23 Tryz.ntmps23 Tryz.results23 ?_; simp only [List.length_cons, List.length_nil, List.length_map, Nat.reduceAdd, Nat.reduceSub, List.replicate_succ, List.replicate_zero, List.cons_append, List.nil_append])
    (refine wk ?_; (repeat' first | exact True.intro | refine Lf.mk ?_ ?_); all_goals intro hP)
    refine awp_loop_ind (σ := Nat) (fun i => l.length - i) (fun i => i ≤ l.length ∧ asgL l x = asgL (l.drop i) x)
      (fun i => (.any :: .i x :: .any :: .any :: .any :: .any :: .any :: .rs 13 (l.map encS) :: .i l.length :: .i i :: .any :: .any :: .any :: .any :: .any :: .any :: .any :: .any :: .any :: .any :: .any :: .any :: .any :: .any :: .any :: .any :: .any :: .any :: .any :: .any :: .any :: .any :: .any :: .any :: .any :: .any :: .any :: .any :: .any :: .any :: [])) (fun i => H0) 0 ⟨Nat.zero_le _, rfl⟩ (by (refine fgtX ?_; try exact True.intro)) ?_
    rintro i ⟨i1, i2⟩
    have hw : IntKind.i64.wrap ((i : Int) + 1) = ((i + 1 : Nat) : Int) := by rw [wrap_of (by omega) (by omega)]; omega
    cases hd : l.drop i with
    | nil =>
      have hlt := drop_nil hd
      rw [hd] at i2
      rw [i2, asgL]
      (have ww1 := hlt; refine wk ?_; clear ww1; (repeat' first | exact True.intro | refine Lf.mk ?_ ?_); all_goals intro hP)
      (refine resX ?_; try exact True.intro)
    | cons s ss =>
      obtain ⟨hvk, hlt, hr, hm⟩ := drop_cons hd
      have hl' : (l.map encS)[i]? = some (cS s) := by rw [List.getElem?_map, hvk]; exact congrArg some (encS_eq s)
      have ht := totL_mem hm
      rw [tot_eq] at ht
      rw [hd, asgL, asgS_eq] at i2
      have cT := fun H => ihN s.thn (by omega) (by omega) H
      have cE' := fun H => ihN s.els (by omega) (by omega) H
      have nxt : asgL l x = asgL ss x → i + 1 ≤ l.length ∧ asgL l x = asgL (l.drop (i + 1)) x := fun h => ⟨by omega, by rw [h, hr]⟩
      by_cases h1 : s.kind = 1
      · by_cases hv : s.var = x
        · rw [decide_eq_true h1, decide_eq_true hv, Bool.true_and, Bool.true_or, Bool.true_or] at i2
          rw [i2]
          have hv' : (s.var == x) = true := by simpa using hv
          (have ww1 := hlt; have ww2 := hl'; have ww3 := h1; have ww4 := hv'; refine wkS ?_; clear ww1 ww2 ww3 ww4; (repeat' first | exact True.intro | refine Lf.mk ?_ ?_); all_goals intro hP)
          (refine resX ?_; try exact True.intro)
        · rw [decide_eq_false hv, decide_eq_false (show ¬ s.kind = 2 by omega), Bool.and_false, Bool.false_and, Bool.false_or, Bool.false_or] at i2
          have hv' : (s.var == x) = false := by simpa using hv
          (have ww1 := hlt; have ww2 := hl'; have ww3 := h1; have ww4 := hv'; have ww5 := hw; refine wkS ?_; clear ww1 ww2 ww3 ww4 ww5; (repeat' first | exact True.intro | refine Lf.mk ?_ ?_); all_goals intro hP)
          refine ⟨i + 1, by omega, nxt i2, ?_⟩
          (refine dropX ?_; try exact True.intro)
      · have h1' : (s.kind == 1) = false := by simpa using h1
        by_cases h2 : s.kind = 2
        · rw [decide_eq_false h1, decide_eq_true h2, Bool.false_and, Bool.false_or, Bool.true_and] at i2
          cases ha : asgL s.thn x with
          | true =>
            rw [ha] at cT i2
            rw [Bool.true_or, Bool.true_or] at i2
            rw [i2]
            (have ww1 := hlt; have ww2 := hl'; have ww3 := h2; have cc1 := fun z1 => cT z1; refine wkS ?_; clear ww1 ww2 ww3 cc1; (repeat' first | exact True.intro | refine Lf.mk ?_ ?_); all_goals intro hP)
            (refine resX ?_; try exact True.intro)
          | false =>
            rw [ha] at cT i2
            rw [Bool.false_or] at i2
            cases he : asgL s.els x with
            | true =>
              rw [he] at cE' i2
              rw [Bool.true_or] at i2
              rw [i2]
              (have ww1 := hlt; have ww2 := hl'; have ww3 := h2; have cc1 := fun z1 => cT z1; have cc2 := fun z1 => cE' z1; refine wkS ?_; clear ww1 ww2 ww3 cc1 cc2; (repeat' first | exact True.intro | refine Lf.mk ?_ ?_); all_goals intro hP)
              (refine resX ?_; try exact True.intro)
            | false =>
              rw [he] at cE' i2
              rw [Bool.false_or] at i2
              (have ww1 := hlt; have ww2 := hl'; have ww3 := h2; have ww4 := hw; have cc1 := fun z1 => cT z1; have cc2 := fun z1 => cE' z1; refine wkS ?_; clear ww1 ww2 ww3 ww4 cc1 cc2; (repeat' first | exact True.intro | refine Lf.mk ?_ ?_); all_goals intro hP)
              refine ⟨i + 1, by omega, nxt i2, ?_⟩
              (refine dropX ?_; try exact True.intro)
        · have h2' : (s.kind == 2) = false := by simpa using h2
          rw [decide_eq_false h1, decide_eq_false h2, Bool.false_and, Bool.false_and, Bool.false_or, Bool.false_or] at i2
          (have ww1 := hlt; have ww2 := hl'; have ww3 := h1'; have ww4 := h2'; have ww5 := hw; refine wkS ?_; clear ww1 ww2 ww3 ww4 ww5; (repeat' first | exact True.intro | refine Lf.mk ?_ ?_); all_goals intro hP)
          refine ⟨i + 1, by omega, nxt i2, ?_⟩
          (refine dropX ?_; try exact True.intro)
theorem PM.put {p : Prg} (h : PM p) {k : Nat} (hk : k < 5) {l : List St} (hl : wSL l ≤ wSL (handP p k)) : PM (putP p k l) :=
  ⟨by have := put_w hk hl; have := h.w; omega, h.l, h.z, h.zv⟩
theorem PM.only {p : Prg} (h : PM p) (k : Nat) : PM (onlyP p k) := ⟨by have := only_w (p := p) k; have := h.w; omega, h.l, h.z, h.zv⟩
theorem runM_is {p : Prg} {st : List Int} {x : Cal} (hc : callOk x = true) (hs : stIn p.vars st = true) (hv : validB p = true) : runM p st x = runP p.vars (handP p x.ev.toNat) st x := by
  unfold runM; rw [if_pos ⟨hc, hs, hv⟩]
theorem runM_only {p : Prg} {st : List Int} {x : Cal} (hc : callOk x = true) (hs : stIn p.vars st = true) (hv : validB p = true) :
    runM (onlyP p x.ev.toNat) st x = runP p.vars (handP p x.ev.toNat) st x := by
  have := call_ev hc
  rw [runM_is (p := onlyP p x.ev.toNat) hc hs (only_valid hv _), only_hand (by omega)]
  rfl
theorem one_ne_zero' : ((1 : Nat) = 0) = False := by simp
theorem zero_ne_one' : ((0 : Nat) = 1) = False := by simp
theorem dr7_18_X30x : Drawn Tryz.prog 18 (regOps 18 ((Tryz.f7.body).getD .skip)) [21] [] [.win [0], .win [0], .win [0], .win [0], .win [0], .win [0], .win [0], .win [0], .win [0], .win [0], .win [0], .win [0], .win [0], .win [0], .win [0], .win [0], .win [0], .win [0], .win [0], .win [0], .win [0], .eff 0, .win [1], .win [1], .win [1]] 1 [] := ⟨rfl, by as_aux_lemma => kernel_rfl⟩
theorem rest_run {p : Prg} {st : List Int} {x : Cal} (hc : callOk x = true) (hs : stIn p.vars st = true) (hv : validB p = true) :
    (runL (runM p st x)).length ≤ st.length ∧ ∀ (i : Nat) (a b : Int), (runL (runM p st x))[i]? = some a → st[i]? = some b → a ≠ b → asgL (handP p x.ev.toNat) i = true := by
  refine ⟨runM_len p st x, ?_⟩
  obtain ⟨us, V⟩ := validB_val hv
  rw [runM_is hc hs hv]
  intro i a b ha hb hab
  cases hr : runP p.vars (handP p x.ev.toNat) st x with
  | error z => rw [hr] at ha; simp [runL] at ha
  | ok st' =>
    rw [hr] at ha
    simp only [runL] at ha
    cases h : asgL (handP p x.ev.toNat) i with
    | true => rfl
    | false =>
      have := asgL_rest i _ (val_hok V x.ev.toNat).1 h st st' hr
      rw [ha, hb] at this
      exact absurd (Option.some.inj this) hab
theorem MeaningRest_run (p : Prg) (st : List Int) (x : Cal) (hp : PF p) (H0 : List AObj) :
    ARun Tryz.prog 7 [.ag (cP p), .rs 1 (rI st), agL x] H0 (.ret (.b true) H0) := by
  have hh := fun H => head8_run H
  have hu := fun H => usable8_run p hp st x H
  cases huse : useB p st x with
  | false =>
    rw [huse] at hu
    (refine ARun.intro Tryz.func7 rfl Tryz.call7 Tryz.ntmps7 Tryz.results7 ?_; simp only [List.length_cons, List.length_nil, List.length_map, Nat.reduceAdd, Nat.reduceSub, List.replicate_succ, List.replicate_zero, List.cons_append, List.nil_append])
    (have rr1 := dr7_18_X30x; have cc1 := fun z1 => hh z1; have cc2 := fun z1 => hu z1; refine wk ?_; clear rr1 cc1 cc2; (repeat' first | exact True.intro | refine Lf.mk ?_ ?_); all_goals intro hP)
    (refine resX ?_; try exact True.intro)
  | true =>
    rw [huse] at hu
    obtain ⟨hfew, hv, hs, hc⟩ := useB_all huse
    have pm := hp.pm hfew
    have hev5 := call_ev hc
    have c1 := fun H => pm.mrun st x H
    have c2 := fun H => (pm.only x.ev.toNat).mrun st x H
    rw [runM_only hc hs hv, ← runM_is hc hs hv] at c2
    obtain ⟨hA1, hA2⟩ := rest_run hc hs hv
    have hsl := stIn_len hs
    have hpl := (few5_all hfew).2.1
    have cI := fun H => Ints_run (runL (runM p st x)) (runL (runM p st x)) (by omega) H
    rw [beq_self_eq_true] at cI
    have hT : totL (handP p x.ev.toNat) ≤ 1000000000 := by
      have h9 := pm.w
      have h8 := totL_le (handP p x.ev.toNat)
      have : wSL (handP p x.ev.toNat) ≤ 900000 := by unfold handP; (repeat' split) <;> omega
      omega
    have cA := fun (i : Int) H => assigns8_run i _ (handP p x.ev.toNat) (Nat.le_refl _) hT H
    generalize runL (runM p st x) = A at *
    generalize runE (runM p st x) = B at *
    have ls : (rI st).length = st.length := List.length_map _
    have lA : (rI A).length = A.length := List.length_map _
    clear huse hfew
    obtain ⟨ev, i0, i1, i2, i3⟩ := x
    simp only at hev5
    have hev : ev = 0 ∨ ev = 1 ∨ ev = 2 ∨ ev = 3 ∨ ev = 4 := by omega
    rcases hev with rfl | rfl | rfl | rfl | rfl
    · obtain ⟨nm, vs, L, o1, o2, o3, o4, wn, pc⟩ := p
      simp only [Int.reduceToNat, Int.toNat_zero, Int.toNat_one, handP, if_true, if_false, Nat.reduceEqDiff, reduceIte, onlyP, onP, one_ne_zero', zero_ne_one'] at *
      have c3 : ∀ H, ARun Tryz.prog 16 [.agg [.pv (.sc (.string nm)), .rs 5 (vs.map encV), .rs 13 (L.map encS), .pv (.sc (.slice none 0 0)), .pv (.sc (.slice none 0 0)), .pv (.sc (.slice none 0 0)), .pv (.sc (.slice none 0 0)), .i wn, .i pc], .rs 1 (rI st), .agg [.i 0, .i i0, .i i1, .i i2, .i i3]] H (.ret (.tup [.rs 1 (rI A), .i B]) H) := fun H => ARun.cv (c2 H) (by (repeat' (first | exact trivial | exact Cv.refl _ | exact Cv.nil (Nat.succ_pos _) | exact PCv.refl _ | exact PCv.nil (Nat.succ_pos _) | refine And.intro ?_ ?_ | refine Cv.agg ?_ | refine Cv.tup ?_ | refine Cv.pv (PCv.rs ?_) | refine PCv.rs ?_)))
      clear c2
      (refine ARun.intro Tryz.func7 rfl Tryz.call7 Tryz.ntmps7 Tryz.results7 ?_; simp only [List.length_cons, List.length_nil, List.length_map, Nat.reduceAdd, Nat.reduceSub, List.replicate_succ, List.replicate_zero, List.cons_append, List.nil_append])
      (have rr1 := dr7_18_X30x; have cc1 := fun z1 => hh z1; have cc2 := fun z1 => hu z1; refine wkS ?_; clear rr1 cc1 cc2; (repeat' first | exact True.intro | refine Lf.mk ?_ ?_); all_goals intro hP)
      refine awp_loop 6 ?_
      (have rr1 := dr7_18_X30x; have ww1 := lA; have cc1 := fun z1 => c1 z1; have cc2 := fun z1 => c3 z1; have cc3 := fun z1 => cI z1; refine wkO ?_; clear rr1 ww1 cc1 cc2 cc3; (repeat' first | exact True.intro | refine Lf.mk ?_ ?_); all_goals intro hP)
      refine awp_loop_ind (σ := Nat) (fun i => A.length - i) (fun i => i ≤ A.length)
        (fun i => (.any :: .rs 1 (rI st) :: .any :: .p H0.length 0 :: .any :: .p (H0.length + 1) 0 :: .any :: .b true :: .any :: .any :: .rs 1 (rI A) :: .any :: .any :: .any :: .any :: .any :: .any :: .any :: .any :: .any :: .any :: .any :: .any :: .any :: .any :: .any :: .any :: .any :: .any :: .any :: .any :: .any :: .any :: .any :: .any :: .any :: .any :: .any :: .any :: .any :: .any :: .any :: .any :: .any :: .any :: .any :: .any :: .any :: .any :: .any :: .any :: .any :: .any :: .any :: .any :: .any :: .any :: .any :: .i A.length :: .i i :: .any :: .any :: .any :: .any :: .any :: .any :: .any :: .any :: .any :: .any :: .any :: .any :: .any :: .any :: .any :: .any :: .any :: .any :: .any :: .any :: .any :: .any :: .any :: .any :: .any :: .any :: .any :: .any :: .any :: []))
        (fun i => H0 ++ [.cells 26 [.pv (.sc (.string nm)), .rs 5 (vs.map encV), .rs 13 (L.map encS), .rs 13 (o1.map encS), .rs 13 (o2.map encS), .rs 13 (o3.map encS), .rs 13 (o4.map encS), .i wn, .i pc], .cells 30 [.i 0, .i i0, .i i1, .i i2, .i i3], .cells 26 [.pv (.sc (.string nm)), .rs 5 (vs.map encV), .rs 13 (L.map encS), .pv (.sc (.slice none 0 0)), .pv (.sc (.slice none 0 0)), .pv (.sc (.slice none 0 0)), .pv (.sc (.slice none 0 0)), .i wn, .i pc]]) 0 (Nat.zero_le _) (by (refine fgtX ?_; try exact True.intro)) ?_
      rintro i h1
      have hw : IntKind.i64.wrap ((i : Int) + 1) = ((i + 1 : Nat) : Int) := by rw [wrap_of (by omega) (by omega)]; omega
      by_cases hlt : i < A.length
      · have hlt1 : (i : Int) < (A.length : Int) := by omega
        have hge : ¬ (st.length : Int) ≤ (i : Int) := by omega
        have hlt2 : (i : Int) < (st.length : Int) := by omega
        obtain ⟨a, ha⟩ : ∃ a, A[i]? = some a := ⟨_, List.getElem?_eq_getElem hlt⟩
        obtain ⟨b, hb⟩ : ∃ b, st[i]? = some b := ⟨_, List.getElem?_eq_getElem (by omega)⟩
        have ha' : (rI A)[i]? = some [.i a] := by rw [List.getElem?_map, ha]; rfl
        have hb' : (rI st)[i]? = some [.i b] := by rw [List.getElem?_map, hb]; rfl
        by_cases hab : a = b
        · have hab' : (a != b) = false := by simpa using hab
          (have rr1 := dr7_18_X30x; have ww1 := ls; have ww2 := lA; have ww3 := hlt1; have ww4 := hge; have ww5 := hlt2; have ww6 := ha'; have ww7 := hb'; have ww8 := hab'; have ww9 := hw; refine wkS ?_; clear rr1 ww1 ww2 ww3 ww4 ww5 ww6 ww7 ww8 ww9; (repeat' first | exact True.intro | refine Lf.mk ?_ ?_); all_goals intro hP)
          refine ⟨i + 1, by omega, by omega, ?_⟩
          (refine fgtX ?_; try exact True.intro)
        · have hab' : (a != b) = true := by simpa using hab
          have cA2 := cA i
          rw [hA2 i a b ha hb hab] at cA2
          (have rr1 := dr7_18_X30x; have ww1 := ls; have ww2 := lA; have ww3 := hlt1; have ww4 := hge; have ww5 := hlt2; have ww6 := ha'; have ww7 := hb'; have ww8 := hab'; have ww9 := hw; have cc1 := fun z1 => cA2 z1; refine wkS ?_; clear rr1 ww1 ww2 ww3 ww4 ww5 ww6 ww7 ww8 ww9 cc1; (repeat' first | exact True.intro | refine Lf.mk ?_ ?_); all_goals intro hP)
          refine ⟨i + 1, by omega, by omega, ?_⟩
          (refine fgtX ?_; try exact True.intro)
      · have hlt1 : ¬ (i : Int) < (A.length : Int) := by omega
        (have rr1 := dr7_18_X30x; have ww1 := hlt1; refine wkS ?_; clear rr1 ww1; (repeat' first | exact True.intro | refine Lf.mk ?_ ?_); all_goals intro hP)
        (refine resX ?_; try exact True.intro)
    · obtain ⟨nm, vs, o0, L, o2, o3, o4, wn, pc⟩ := p
      simp only [Int.reduceToNat, Int.toNat_zero, Int.toNat_one, handP, if_true, if_false, Nat.reduceEqDiff, reduceIte, onlyP, onP, one_ne_zero', zero_ne_one'] at *
      have c3 : ∀ H, ARun Tryz.prog 16 [.agg [.pv (.sc (.string nm)), .rs 5 (vs.map encV), .pv (.sc (.slice none 0 0)), .rs 13 (L.map encS), .pv (.sc (.slice none 0 0)), .pv (.sc (.slice none 0 0)), .pv (.sc (.slice none 0 0)), .i wn, .i pc], .rs 1 (rI st), .agg [.i 1, .i i0, .i i1, .i i2, .i i3]] H (.ret (.tup [.rs 1 (rI A), .i B]) H) := fun H => ARun.cv (c2 H) (by (repeat' (first | exact trivial | exact Cv.refl _ | exact Cv.nil (Nat.succ_pos _) | exact PCv.refl _ | exact PCv.nil (Nat.succ_pos _) | refine And.intro ?_ ?_ | refine Cv.agg ?_ | refine Cv.tup ?_ | refine Cv.pv (PCv.rs ?_) | refine PCv.rs ?_)))
      clear c2
      (refine ARun.intro Tryz.func7 rfl Tryz.call7 Tryz.ntmps7 Tryz.results7 ?_; simp only [List.length_cons, List.length_nil, List.length_map, Nat.reduceAdd, Nat.reduceSub, List.replicate_succ, List.replicate_zero, List.cons_append, List.nil_append])
      (have rr1 := dr7_18_X30x; have cc1 := fun z1 => hh z1; have cc2 := fun z1 => hu z1; refine wkS ?_; clear rr1 cc1 cc2; (repeat' first | exact True.intro | refine Lf.mk ?_ ?_); all_goals intro hP)
      refine awp_loop 6 ?_
      (have rr1 := dr7_18_X30x; have ww1 := lA; have cc1 := fun z1 => c1 z1; have cc2 := fun z1 => c3 z1; have cc3 := fun z1 => cI z1; refine wkO ?_; clear rr1 ww1 cc1 cc2 cc3; (repeat' first | exact True.intro | refine Lf.mk ?_ ?_); all_goals intro hP)
      refine awp_loop_ind (σ := Nat) (fun i => A.length - i) (fun i => i ≤ A.length)
        (fun i => (.any :: .rs 1 (rI st) :: .any :: .p H0.length 0 :: .any :: .p (H0.length + 1) 0 :: .any :: .b true :: .any :: .any :: .rs 1 (rI A) :: .any :: .any :: .any :: .any :: .any :: .any :: .any :: .any :: .any :: .any :: .any :: .any :: .any :: .any :: .any :: .any :: .any :: .any :: .any :: .any :: .any :: .any :: .any :: .any :: .any :: .any :: .any :: .any :: .any :: .any :: .any :: .any :: .any :: .any :: .any :: .any :: .any :: .any :: .any :: .any :: .any :: .any :: .any :: .any :: .any :: .any :: .any :: .i A.length :: .i i :: .any :: .any :: .any :: .any :: .any :: .any :: .any :: .any :: .any :: .any :: .any :: .any :: .any :: .any :: .any :: .any :: .any :: .any :: .any :: .any :: .any :: .any :: .any :: .any :: .any :: .any :: .any :: .any :: .any :: []))
        (fun i => H0 ++ [.cells 26 [.pv (.sc (.string nm)), .rs 5 (vs.map encV), .rs 13 (o0.map encS), .rs 13 (L.map encS), .rs 13 (o2.map encS), .rs 13 (o3.map encS), .rs 13 (o4.map encS), .i wn, .i pc], .cells 30 [.i 1, .i i0, .i i1, .i i2, .i i3], .cells 26 [.pv (.sc (.string nm)), .rs 5 (vs.map encV), .pv (.sc (.slice none 0 0)), .rs 13 (L.map encS), .pv (.sc (.slice none 0 0)), .pv (.sc (.slice none 0 0)), .pv (.sc (.slice none 0 0)), .i wn, .i pc]]) 0 (Nat.zero_le _) (by (refine fgtX ?_; try exact True.intro)) ?_
      rintro i h1
      have hw : IntKind.i64.wrap ((i : Int) + 1) = ((i + 1 : Nat) : Int) := by rw [wrap_of (by omega) (by omega)]; omega
      by_cases hlt : i < A.length
      · have hlt1 : (i : Int) < (A.length : Int) := by omega
        have hge : ¬ (st.length : Int) ≤ (i : Int) := by omega
        have hlt2 : (i : Int) < (st.length : Int) := by omega
        obtain ⟨a, ha⟩ : ∃ a, A[i]? = some a := ⟨_, List.getElem?_eq_getElem hlt⟩
        obtain ⟨b, hb⟩ : ∃ b, st[i]? = some b := ⟨_, List.getElem?_eq_getElem (by omega)⟩
        have ha' : (rI A)[i]? = some [.i a] := by rw [List.getElem?_map, ha]; rfl
        have hb' : (rI st)[i]? = some [.i b] := by rw [List.getElem?_map, hb]; rfl
        by_cases hab : a = b
        · have hab' : (a != b) = false := by simpa using hab
          (have rr1 := dr7_18_X30x; have ww1 := ls; have ww2 := lA; have ww3 := hlt1; have ww4 := hge; have ww5 := hlt2; have ww6 := ha'; have ww7 := hb'; have ww8 := hab'; have ww9 := hw; refine wkS ?_; clear rr1 ww1 ww2 ww3 ww4 ww5 ww6 ww7 ww8 ww9; (repeat' first | exact True.intro | refine Lf.mk ?_ ?_); all_goals intro hP)
          refine ⟨i + 1, by omega, by omega, ?_⟩
          (refine fgtX ?_; try exact True.intro)
        · have hab' : (a != b) = true := by simpa using hab
          have cA2 := cA i
          rw [hA2 i a b ha hb hab] at cA2
          (have rr1 := dr7_18_X30x; have ww1 := ls; have ww2 := lA; have ww3 := hlt1; have ww4 := hge; have ww5 := hlt2; have ww6 := ha'; have ww7 := hb'; have ww8 := hab'; have ww9 := hw; have cc1 := fun z1 => cA2 z1; refine wkS ?_; clear rr1 ww1 ww2 ww3 ww4 ww5 ww6 ww7 ww8 ww9 cc1; (repeat' first | exact True.intro | refine Lf.mk ?_ ?_); all_goals intro hP)
          refine ⟨i + 1, by omega, by omega, ?_⟩
          (refine fgtX ?_; try exact True.intro)
      · have hlt1 : ¬ (i : Int) < (A.length : Int) := by omega
        (have rr1 := dr7_18_X30x; have ww1 := hlt1; refine wkS ?_; clear rr1 ww1; (repeat' first | exact True.intro | refine Lf.mk ?_ ?_); all_goals intro hP)
        (refine resX ?_; try exact True.intro)
    · obtain ⟨nm, vs, o0, o1, L, o3, o4, wn, pc⟩ := p
      simp only [Int.reduceToNat, Int.toNat_zero, Int.toNat_one, handP, if_true, if_false, Nat.reduceEqDiff, reduceIte, onlyP, onP, one_ne_zero', zero_ne_one'] at *
      have c3 : ∀ H, ARun Tryz.prog 16 [.agg [.pv (.sc (.string nm)), .rs 5 (vs.map encV), .pv (.sc (.slice none 0 0)), .pv (.sc (.slice none 0 0)), .rs 13 (L.map encS), .pv (.sc (.slice none 0 0)), .pv (.sc (.slice none 0 0)), .i wn, .i pc], .rs 1 (rI st), .agg [.i 2, .i i0, .i i1, .i i2, .i i3]] H (.ret (.tup [.rs 1 (rI A), .i B]) H) := fun H => ARun.cv (c2 H) (by (repeat' (first | exact trivial | exact Cv.refl _ | exact Cv.nil (Nat.succ_pos _) | exact PCv.refl _ | exact PCv.nil (Nat.succ_pos _) | refine And.intro ?_ ?_ | refine Cv.agg ?_ | refine Cv.tup ?_ | refine Cv.pv (PCv.rs ?_) | refine PCv.rs ?_)))
      clear c2
      (refine ARun.intro Tryz.func7 rfl Tryz.call7 Tryz.ntmps7 Tryz.results7 ?_; simp only [List.length_cons, List.length_nil, List.length_map, Nat.reduceAdd, Nat.reduceSub, List.replicate_succ, List.replicate_zero, List.cons_append, List.nil_append])
      (have rr1 := dr7_18_X30x; have cc1 := fun z1 => hh z1; have cc2 := fun z1 => hu z1; refine wkS ?_; clear rr1 cc1 cc2; (repeat' first | exact True.intro | refine Lf.mk ?_ ?_); all_goals intro hP)
      refine awp_loop 6 ?_
      (have rr1 := dr7_18_X30x; have ww1 := lA; have cc1 := fun z1 => c1 z1; have cc2 := fun z1 => c3 z1; have cc3 := fun z1 => cI z1; refine wkO ?_; clear rr1 ww1 cc1 cc2 cc3; (repeat' first | exact True.intro | refine Lf.mk ?_ ?_); all_goals intro hP)
      refine awp_loop_ind (σ := Nat) (fun i => A.length - i) (fun i => i ≤ A.length)
        (fun i => (.any :: .rs 1 (rI st) :: .any :: .p H0.length 0 :: .any :: .p (H0.length + 1) 0 :: .any :: .b true :: .any :: .any :: .rs 1 (rI A) :: .any :: .any :: .any :: .any :: .any :: .any :: .any :: .any :: .any :: .any :: .any :: .any :: .any :: .any :: .any :: .any :: .any :: .any :: .any :: .any :: .any :: .any :: .any :: .any :: .any :: .any :: .any :: .any :: .any :: .any :: .any :: .any :: .any :: .any :: .any :: .any :: .any :: .any :: .any :: .any :: .any :: .any :: .any :: .any :: .any :: .any :: .any :: .i A.length :: .i i :: .any :: .any :: .any :: .any :: .any :: .any :: .any :: .any :: .any :: .any :: .any :: .any :: .any :: .any :: .any :: .any :: .any :: .any :: .any :: .any :: .any :: .any :: .any :: .any :: .any :: .any :: .any :: .any :: .any :: []))
        (fun i => H0 ++ [.cells 26 [.pv (.sc (.string nm)), .rs 5 (vs.map encV), .rs 13 (o0.map encS), .rs 13 (o1.map encS), .rs 13 (L.map encS), .rs 13 (o3.map encS), .rs 13 (o4.map encS), .i wn, .i pc], .cells 30 [.i 2, .i i0, .i i1, .i i2, .i i3], .cells 26 [.pv (.sc (.string nm)), .rs 5 (vs.map encV), .pv (.sc (.slice none 0 0)), .pv (.sc (.slice none 0 0)), .rs 13 (L.map encS), .pv (.sc (.slice none 0 0)), .pv (.sc (.slice none 0 0)), .i wn, .i pc]]) 0 (Nat.zero_le _) (by (refine fgtX ?_; try exact True.intro)) ?_
      rintro i h1
      have hw : IntKind.i64.wrap ((i : Int) + 1) = ((i + 1 : Nat) : Int) := by rw [wrap_of (by omega) (by omega)]; omega
      by_cases hlt : i < A.length
      · have hlt1 : (i : Int) < (A.length : Int) := by omega
        have hge : ¬ (st.length : Int) ≤ (i : Int) := by omega
        have hlt2 : (i : Int) < (st.length : Int) := by omega
        obtain ⟨a, ha⟩ : ∃ a, A[i]? = some a := ⟨_, List.getElem?_eq_getElem hlt⟩
        obtain ⟨b, hb⟩ : ∃ b, st[i]? = some b := ⟨_, List.getElem?_eq_getElem (by omega)⟩
        have ha' : (rI A)[i]? = some [.i a] := by rw [List.getElem?_map, ha]; rfl
        have hb' : (rI st)[i]? = some [.i b] := by rw [List.getElem?_map, hb]; rfl
        by_cases hab : a = b
        · have hab' : (a != b) = false := by simpa using hab
          (have rr1 := dr7_18_X30x; have ww1 := ls; have ww2 := lA; have ww3 := hlt1; have ww4 := hge; have ww5 := hlt2; have ww6 := ha'; have ww7 := hb'; have ww8 := hab'; have ww9 := hw; refine wkS ?_; clear rr1 ww1 ww2 ww3 ww4 ww5 ww6 ww7 ww8 ww9; (repeat' first | exact True.intro | refine Lf.mk ?_ ?_); all_goals intro hP)
          refine ⟨i + 1, by omega, by omega, ?_⟩
          (refine fgtX ?_; try exact True.intro)
        · have hab' : (a != b) = true := by simpa using hab
          have cA2 := cA i
          rw [hA2 i a b ha hb hab] at cA2
          (have rr1 := dr7_18_X30x; have ww1 := ls; have ww2 := lA; have ww3 := hlt1; have ww4 := hge; have ww5 := hlt2; have ww6 := ha'; have ww7 := hb'; have ww8 := hab'; have ww9 := hw; have cc1 := fun z1 => cA2 z1; refine wkS ?_; clear rr1 ww1 ww2 ww3 ww4 ww5 ww6 ww7 ww8 ww9 cc1; (repeat' first | exact True.intro | refine Lf.mk ?_ ?_); all_goals intro hP)
          refine ⟨i + 1, by omega, by omega, ?_⟩
          (refine fgtX ?_; try exact True.intro)
      · have hlt1 : ¬ (i : Int) < (A.length : Int) := by omega
        (have rr1 := dr7_18_X30x; have ww1 := hlt1; refine wkS ?_; clear rr1 ww1; (repeat' first | exact True.intro | refine Lf.mk ?_ ?_); all_goals intro hP)
        (refine resX ?_; try exact True.intro)
    · obtain ⟨nm, vs, o0, o1, o2, L, o4, wn, pc⟩ := p
      simp only [Int.reduceToNat, Int.toNat_zero, Int.toNat_one, handP, if_true, if_false, Nat.reduceEqDiff, reduceIte, onlyP, onP, one_ne_zero', zero_ne_one'] at *
      have c3 : ∀ H, ARun Tryz.prog 16 [.agg [.pv (.sc (.string nm)), .rs 5 (vs.map encV), .pv (.sc (.slice none 0 0)), .pv (.sc (.slice none 0 0)), .pv (.sc (.slice none 0 0)), .rs 13 (L.map encS), .pv (.sc (.slice none 0 0)), .i wn, .i pc], .rs 1 (rI st), .agg [.i 3, .i i0, .i i1, .i i2, .i i3]] H (.ret (.tup [.rs 1 (rI A), .i B]) H) := fun H => ARun.cv (c2 H) (by (repeat' (first | exact trivial | exact Cv.refl _ | exact Cv.nil (Nat.succ_pos _) | exact PCv.refl _ | exact PCv.nil (Nat.succ_pos _) | refine And.intro ?_ ?_ | refine Cv.agg ?_ | refine Cv.tup ?_ | refine Cv.pv (PCv.rs ?_) | refine PCv.rs ?_)))
      clear c2
      (refine ARun.intro Tryz.func7 rfl Tryz.call7 Tryz.ntmps7 Tryz.results7 ?_; simp only [List.length_cons, List.length_nil, List.length_map, Nat.reduceAdd, Nat.reduceSub, List.replicate_succ, List.replicate_zero, List.cons_append, List.nil_append])
      (have rr1 := dr7_18_X30x; have cc1 := fun z1 => hh z1; have cc2 := fun z1 => hu z1; refine wkS ?_; clear rr1 cc1 cc2; (repeat' first | exact True.intro | refine Lf.mk ?_ ?_); all_goals intro hP)
      refine awp_loop 6 ?_
      (have rr1 := dr7_18_X30x; have ww1 := lA; have cc1 := fun z1 => c1 z1; have cc2 := fun z1 => c3 z1; have cc3 := fun z1 => cI z1; refine wkO ?_; clear rr1 ww1 cc1 cc2 cc3; (repeat' first | exact True.intro | refine Lf.mk ?_ ?_); all_goals intro hP)
      refine awp_loop_ind (σ := Nat) (fun i => A.length - i) (fun i => i ≤ A.length)
        (fun i => (.any :: .rs 1 (rI st) :: .any :: .p H0.length 0 :: .any :: .p (H0.length + 1) 0 :: .any :: .b true :: .any :: .any :: .rs 1 (rI A) :: .any :: .any :: .any :: .any :: .any :: .any :: .any :: .any :: .any :: .any :: .any :: .any :: .any :: .any :: .any :: .any :: .any :: .any :: .any :: .any :: .any :: .any :: .any :: .any :: .any :: .any :: .any :: .any :: .any :: .any :: .any :: .any :: .any :: .any :: .any :: .any :: .any :: .any :: .any :: .any :: .any :: .any :: .any :: .any :: .any :: .any :: .any :: .i A.length :: .i i :: .any :: .any :: .any :: .any :: .any :: .any :: .any :: .any :: .any :: .any :: .any :: .any :: .any :: .any :: .any :: .any :: .any :: .any :: .any :: .any :: .any :: .any :: .any :: .any :: .any :: .any :: .any :: .any :: .any :: []))
        (fun i => H0 ++ [.cells 26 [.pv (.sc (.string nm)), .rs 5 (vs.map encV), .rs 13 (o0.map encS), .rs 13 (o1.map encS), .rs 13 (o2.map encS), .rs 13 (L.map encS), .rs 13 (o4.map encS), .i wn, .i pc], .cells 30 [.i 3, .i i0, .i i1, .i i2, .i i3], .cells 26 [.pv (.sc (.string nm)), .rs 5 (vs.map encV), .pv (.sc (.slice none 0 0)), .pv (.sc (.slice none 0 0)), .pv (.sc (.slice none 0 0)), .rs 13 (L.map encS), .pv (.sc (.slice none 0 0)), .i wn, .i pc]]) 0 (Nat.zero_le _) (by (refine fgtX ?_; try exact True.intro)) ?_
      rintro i h1
      have hw : IntKind.i64.wrap ((i : Int) + 1) = ((i + 1 : Nat) : Int) := by rw [wrap_of (by omega) (by omega)]; omega
      by_cases hlt : i < A.length
      · have hlt1 : (i : Int) < (A.length : Int) := by omega
        have hge : ¬ (st.length : Int) ≤ (i : Int) := by omega
        have hlt2 : (i : Int) < (st.length : Int) := by omega
        obtain ⟨a, ha⟩ : ∃ a, A[i]? = some a := ⟨_, List.getElem?_eq_getElem hlt⟩
        obtain ⟨b, hb⟩ : ∃ b, st[i]? = some b := ⟨_, List.getElem?_eq_getElem (by omega)⟩
        have ha' : (rI A)[i]? = some [.i a] := by rw [List.getElem?_map, ha]; rfl
        have hb' : (rI st)[i]? = some [.i b] := by rw [List.getElem?_map, hb]; rfl
        by_cases hab : a = b
        · have hab' : (a != b) = false := by simpa using hab
          (have rr1 := dr7_18_X30x; have ww1 := ls; have ww2 := lA; have ww3 := hlt1; have ww4 := hge; have ww5 := hlt2; have ww6 := ha'; have ww7 := hb'; have ww8 := hab'; have ww9 := hw; refine wkS ?_; clear rr1 ww1 ww2 ww3 ww4 ww5 ww6 ww7 ww8 ww9; (repeat' first | exact True.intro | refine Lf.mk ?_ ?_); all_goals intro hP)
          refine ⟨i + 1, by omega, by omega, ?_⟩
          (refine fgtX ?_; try exact True.intro)
        · have hab' : (a != b) = true := by simpa using hab
          have cA2 := cA i
          rw [hA2 i a b ha hb hab] at cA2
          (have rr1 := dr7_18_X30x; have ww1 := ls; have ww2 := lA; have ww3 := hlt1; have ww4 := hge; have ww5 := hlt2; have ww6 := ha'; have ww7 := hb'; have ww8 := hab'; have ww9 := hw; have cc1 := fun z1 => cA2 z1; refine wkS ?_; clear rr1 ww1 ww2 ww3 ww4 ww5 ww6 ww7 ww8 ww9 cc1; (repeat' first | exact True.intro | refine Lf.mk ?_ ?_); all_goals intro hP)
          refine ⟨i + 1, by omega, by omega, ?_⟩
          (refine fgtX ?_; try exact True.intro)
      · have hlt1 : ¬ (i : Int) < (A.length : Int) := by omega
        (have rr1 := dr7_18_X30x; have ww1 := hlt1; refine wkS ?_; clear rr1 ww1; (repeat' first | exact True.intro | refine Lf.mk ?_ ?_); all_goals intro hP)
        (refine resX ?_; try exact True.intro)
    · obtain ⟨nm, vs, o0, o1, o2, o3, L, wn, pc⟩ := p
      simp only [Int.reduceToNat, Int.toNat_zero, Int.toNat_one, handP, if_true, if_false, Nat.reduceEqDiff, reduceIte, onlyP, onP, one_ne_zero', zero_ne_one'] at *
      have c3 : ∀ H, ARun Tryz.prog 16 [.agg [.pv (.sc (.string nm)), .rs 5 (vs.map encV), .pv (.sc (.slice none 0 0)), .pv (.sc (.slice none 0 0)), .pv (.sc (.slice none 0 0)), .pv (.sc (.slice none 0 0)), .rs 13 (L.map encS), .i wn, .i pc], .rs 1 (rI st), .agg [.i 4, .i i0, .i i1, .i i2, .i i3]] H (.ret (.tup [.rs 1 (rI A), .i B]) H) := fun H => ARun.cv (c2 H) (by (repeat' (first | exact trivial | exact Cv.refl _ | exact Cv.nil (Nat.succ_pos _) | exact PCv.refl _ | exact PCv.nil (Nat.succ_pos _) | refine And.intro ?_ ?_ | refine Cv.agg ?_ | refine Cv.tup ?_ | refine Cv.pv (PCv.rs ?_) | refine PCv.rs ?_)))
      clear c2
      (refine ARun.intro Tryz.func7 rfl Tryz.call7 Tryz.ntmps7 Tryz.results7 ?_; simp only [List.length_cons, List.length_nil, List.length_map, Nat.reduceAdd, Nat.reduceSub, List.replicate_succ, List.replicate_zero, List.cons_append, List.nil_append])
      (have rr1 := dr7_18_X30x; have cc1 := fun z1 => hh z1; have cc2 := fun z1 => hu z1; refine wkS ?_; clear rr1 cc1 cc2; (repeat' first | exact True.intro | refine Lf.mk ?_ ?_); all_goals intro hP)
      refine awp_loop 6 ?_
      (have rr1 := dr7_18_X30x; have ww1 := lA; have cc1 := fun z1 => c1 z1; have cc2 := fun z1 => c3 z1; have cc3 := fun z1 => cI z1; refine wkO ?_; clear rr1 ww1 cc1 cc2 cc3; (repeat' first | exact True.intro | refine Lf.mk ?_ ?_); all_goals intro hP)
      refine awp_loop_ind (σ := Nat) (fun i => A.length - i) (fun i => i ≤ A.length)
        (fun i => (.any :: .rs 1 (rI st) :: .any :: .p H0.length 0 :: .any :: .p (H0.length + 1) 0 :: .any :: .b true :: .any :: .any :: .rs 1 (rI A) :: .any :: .any :: .any :: .any :: .any :: .any :: .any :: .any :: .any :: .any :: .any :: .any :: .any :: .any :: .any :: .any :: .any :: .any :: .any :: .any :: .any :: .any :: .any :: .any :: .any :: .any :: .any :: .any :: .any :: .any :: .any :: .any :: .any :: .any :: .any :: .any :: .any :: .any :: .any :: .any :: .any :: .any :: .any :: .any :: .any :: .any :: .any :: .i A.length :: .i i :: .any :: .any :: .any :: .any :: .any :: .any :: .any :: .any :: .any :: .any :: .any :: .any :: .any :: .any :: .any :: .any :: .any :: .any :: .any :: .any :: .any :: .any :: .any :: .any :: .any :: .any :: .any :: .any :: .any :: []))
        (fun i => H0 ++ [.cells 26 [.pv (.sc (.string nm)), .rs 5 (vs.map encV), .rs 13 (o0.map encS), .rs 13 (o1.map encS), .rs 13 (o2.map encS), .rs 13 (o3.map encS), .rs 13 (L.map encS), .i wn, .i pc], .cells 30 [.i 4, .i i0, .i i1, .i i2, .i i3], .cells 26 [.pv (.sc (.string nm)), .rs 5 (vs.map encV), .pv (.sc (.slice none 0 0)), .pv (.sc (.slice none 0 0)), .pv (.sc (.slice none 0 0)), .pv (.sc (.slice none 0 0)), .rs 13 (L.map encS), .i wn, .i pc]]) 0 (Nat.zero_le _) (by (refine fgtX ?_; try exact True.intro)) ?_
      rintro i h1
      have hw : IntKind.i64.wrap ((i : Int) + 1) = ((i + 1 : Nat) : Int) := by rw [wrap_of (by omega) (by omega)]; omega
      by_cases hlt : i < A.length
      · have hlt1 : (i : Int) < (A.length : Int) := by omega
        have hge : ¬ (st.length : Int) ≤ (i : Int) := by omega
        have hlt2 : (i : Int) < (st.length : Int) := by omega
        obtain ⟨a, ha⟩ : ∃ a, A[i]? = some a := ⟨_, List.getElem?_eq_getElem hlt⟩
        obtain ⟨b, hb⟩ : ∃ b, st[i]? = some b := ⟨_, List.getElem?_eq_getElem (by omega)⟩
        have ha' : (rI A)[i]? = some [.i a] := by rw [List.getElem?_map, ha]; rfl
        have hb' : (rI st)[i]? = some [.i b] := by rw [List.getElem?_map, hb]; rfl
        by_cases hab : a = b
        · have hab' : (a != b) = false := by simpa using hab
          (have rr1 := dr7_18_X30x; have ww1 := ls; have ww2 := lA; have ww3 := hlt1; have ww4 := hge; have ww5 := hlt2; have ww6 := ha'; have ww7 := hb'; have ww8 := hab'; have ww9 := hw; refine wkS ?_; clear rr1 ww1 ww2 ww3 ww4 ww5 ww6 ww7 ww8 ww9; (repeat' first | exact True.intro | refine Lf.mk ?_ ?_); all_goals intro hP)
          refine ⟨i + 1, by omega, by omega, ?_⟩
          (refine fgtX ?_; try exact True.intro)
        · have hab' : (a != b) = true := by simpa using hab
          have cA2 := cA i
          rw [hA2 i a b ha hb hab] at cA2
          (have rr1 := dr7_18_X30x; have ww1 := ls; have ww2 := lA; have ww3 := hlt1; have ww4 := hge; have ww5 := hlt2; have ww6 := ha'; have ww7 := hb'; have ww8 := hab'; have ww9 := hw; have cc1 := fun z1 => cA2 z1; refine wkS ?_; clear rr1 ww1 ww2 ww3 ww4 ww5 ww6 ww7 ww8 ww9 cc1; (repeat' first | exact True.intro | refine Lf.mk ?_ ?_); all_goals intro hP)
          refine ⟨i + 1, by omega, by omega, ?_⟩
          (refine fgtX ?_; try exact True.intro)
      · have hlt1 : ¬ (i : Int) < (A.length : Int) := by omega
        (have rr1 := dr7_18_X30x; have ww1 := hlt1; refine wkS ?_; clear rr1 ww1; (repeat' first | exact True.intro | refine Lf.mk ?_ ?_); all_goals intro hP)
        (refine resX ?_; try exact True.intro)
end Go.Proofs.YtpfjlifneibhfaaGreat.Y
