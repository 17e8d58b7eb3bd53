/- Part 6 of the proofs of seat YtpfjlifneibhfaaGreat: what the texts behind it lean on (abstract memory, walks of functions, plain laws). -/
import Derived.Test.YtpfjlifneibhfaaGreatB5
set_option linter.unusedSectionVars false
set_option linter.unusedSimpArgs false
set_option linter.unusedVariables false
set_option maxHeartbeats 100000000
set_option maxRecDepth 100000
namespace Go.Proofs.YtpfjlifneibhfaaGreat.Y
open Go.Proofs.YtpfjlifneibhfaaGreat.AL Go.Proofs Go
attribute [local irreducible] AWP AWL AWG AWR AWE AWX AWO AWSeq AWSG AWSR AWSO AWSE AWSF GoodP OGW OGR OGE OGX PGW PGR PGE Wk AWLoop AWPD AWLD
theorem uses8_run (x : Int) (e : Ex) : nodes e ≤ 1000000000 → ∀ (H0 : List AObj), ARun Tryz.prog 46 [.ag (cE e), .i x] H0 (.ret (.b (useE e x)) H0) := by
  induction e using Ex.ind with
  | h e ih =>
    intro hn H0
    rw [nodes_eq] at hn
    have hkl := len_nodesL e.kids
    rw [useE_eq]
    (refine ARun.intro Tryz.func46 rfl Tryz.call46 Tryz.ntmps46 Tryz.results46 ?_; simp only [List.length_cons, List.length_nil, List.length_map, Nat.reduceAdd, Nat.reduceSub, List.replicate_succ, List.replicate_zero, List.cons_append, List.nil_append])
    (refine wk ?_; (repeat' first | exact True.intro | refine Lf.mk ?_ ?_); all_goals intro hP)
    refine awp_loop_ind (σ := Nat) (fun i => e.kids.length - i) (fun i => i ≤ e.kids.length ∧ useEs e.kids x = useEs (e.kids.drop i) x)
      (fun i => (.any :: .i x :: .p H0.length 0 :: .any :: .any :: .any :: .any :: .any :: .rs 4 (e.kids.map encE) :: .i e.kids.length :: .i i :: .any :: .any :: .any :: .any :: .any :: .any :: .any :: .any :: .any :: .any :: .any :: .any :: .any :: .any :: .any :: .any :: [])) (fun i => H0 ++ [.cells 33 [.i e.op, .i e.n, .i e.unit, .rs 4 (e.kids.map encE)]]) 0 ⟨Nat.zero_le _, rfl⟩ (by (refine fgtX ?_; try exact True.intro)) ?_
    rintro i ⟨i1, i2⟩
    have hw : IntKind.i64.wrap ((i : Int) + 1) = ((i + 1 : Nat) : Int) := by rw [wrap_of (by omega) (by omega)]; omega
    cases hd : e.kids.drop i with
    | nil =>
      have hlt := drop_nil hd
      rw [hd] at i2
      rw [i2, useEs, Bool.false_or]
      by_cases h3 : e.op = 3
      · rw [decide_eq_true h3, Bool.true_and]
        by_cases h4 : e.n = x
        · have h4' : (e.n == x) = true := by simpa using h4
          rw [decide_eq_true h4]
          (have ww1 := hlt; have ww2 := h3; have ww3 := h4'; refine wkS ?_; clear ww1 ww2 ww3; (repeat' first | exact True.intro | refine Lf.mk ?_ ?_); all_goals intro hP)
          (refine resX ?_; try exact True.intro)
        · have h4' : (e.n == x) = false := by simpa using h4
          rw [decide_eq_false h4]
          (have ww1 := hlt; have ww2 := h3; have ww3 := h4'; refine wkS ?_; clear ww1 ww2 ww3; (repeat' first | exact True.intro | refine Lf.mk ?_ ?_); all_goals intro hP)
          (refine resX ?_; try exact True.intro)
      · have h3' : (e.op == 3) = false := by simpa using h3
        rw [decide_eq_false h3, Bool.false_and]
        (have ww1 := hlt; have ww2 := h3'; refine wkS ?_; clear ww1 ww2; (repeat' first | exact True.intro | refine Lf.mk ?_ ?_); all_goals intro hP)
        (refine resX ?_; try exact True.intro)
    | cons k rest =>
      obtain ⟨hk, hlt, hr, hm⟩ := drop_cons hd
      have hk' : (e.kids.map encE)[i]? = some (cE k) := by rw [List.getElem?_map, hk, Option.map_some, encE_eq]
      have c := fun H => ih k hm (by have := nodes_mem hm; omega) H
      rw [hd, useEs] at i2
      cases hu : useE k x with
      | true =>
        rw [hu] at c i2
        rw [i2, Bool.true_or, Bool.true_or]
        (have ww1 := hlt; have ww2 := hk'; have cc1 := fun z1 => c z1; refine wkS ?_; clear ww1 ww2 cc1; (repeat' first | exact True.intro | refine Lf.mk ?_ ?_); all_goals intro hP)
        (refine resX ?_; try exact True.intro)
      | false =>
        rw [hu] at c i2
        rw [Bool.false_or] at i2
        (have ww1 := hlt; have ww2 := hk'; have ww3 := hw; have cc1 := fun z1 => c z1; refine wkS ?_; clear ww1 ww2 ww3 cc1; (repeat' first | exact True.intro | refine Lf.mk ?_ ?_); all_goals intro hP)
        refine ⟨i + 1, by omega, ⟨by omega, by rw [i2, hr]⟩, ?_⟩
        refine Wk.keepE 1 1 rfl (by simp) (by intro o ho; simp only [List.mem_cons, List.not_mem_nil, or_false] at ho; subst ho; simp [AObj.under, AV.under]) ?_
        simp only [List.map_cons, List.map_nil, AV.low, Nat.lt_irrefl, if_false, Fgt, true_or, or_true, and_true, true_and, Nat.lt_add_right_iff_pos, Nat.lt_add_one, if_true, eq_self]
theorem reads8_run (x : Int) : ∀ (N : Nat) (l : List St), totL l ≤ N → totL l ≤ 1000000000 → fineL l → ∀ (H0 : List AObj), ARun Tryz.prog 24 [.rs 13 (l.map encS), .i x] H0 (.ret (.b (redL l x)) H0) := by
  intro N
  induction N with
  | zero =>
    intro l hN _ _ H0
    have hl : l = [] := by have := len_totL l; exact List.eq_nil_of_length_eq_zero (by omega)
    subst hl
    (refine ARun.intro Tryz.func24 rfl Tryz.call24 Tryz.ntmps24 Tryz.results24 ?_; simp only [List.length_cons, List.length_nil, List.length_map, Nat.reduceAdd, Nat.reduceSub, List.replicate_succ, List.replicate_zero, List.cons_append, List.nil_append])
    (refine wk ?_; (repeat' first | exact True.intro | refine Lf.mk ?_ ?_); all_goals intro hP)
    refine awp_loop 1 ?_
    (refine wkO ?_; (repeat' first | exact True.intro | refine Lf.mk ?_ ?_); all_goals intro hP)
    (refine resX ?_; try exact True.intro)
  | succ N ihN =>
    intro l hN hb0 hf H0
    have hll : l.length ≤ 1000000000 := by have := len_totL l; omega
    (refine ARun.intro Tryz.func24 rfl Tryz.call24 Tryz.ntmps24 Tryz.results24 ?_; simp only [List.length_cons, List.length_nil, List.length_map, Nat.reduceAdd, Nat.reduceSub, List.replicate_succ, List.replicate_zero, List.cons_append, List.nil_append])
    (refine wk ?_; (repeat' first | exact True.intro | refine Lf.mk ?_ ?_); all_goals intro hP)
    refine awp_loop_ind (σ := Nat) (fun i => l.length - i) (fun i => i ≤ l.length ∧ redL l x = redL (l.drop i) x)
      (fun i => (.any :: .i x :: .any :: .any :: .any :: .any :: .any :: .rs 13 (l.map encS) :: .i l.length :: .i i :: .any :: .any :: .any :: .any :: .any :: .any :: .any :: .any :: .any :: .any :: .any :: .any :: .any :: .any :: .any :: .any :: .any :: .any :: .any :: .any :: .any :: .any :: .any :: .any :: .any :: .any :: .any :: .any :: .any :: .any :: .any :: [])) (fun i => H0) 0 ⟨Nat.zero_le _, rfl⟩ (by (refine fgtX ?_; try exact True.intro)) ?_
    rintro i ⟨i1, i2⟩
    have hw : IntKind.i64.wrap ((i : Int) + 1) = ((i + 1 : Nat) : Int) := by rw [wrap_of (by omega) (by omega)]; omega
    cases hd : l.drop i with
    | nil =>
      have hlt := drop_nil hd
      rw [hd] at i2
      rw [i2, redL]
      (have ww1 := hlt; refine wk ?_; clear ww1; (repeat' first | exact True.intro | refine Lf.mk ?_ ?_); all_goals intro hP)
      (refine resX ?_; try exact True.intro)
    | cons s ss =>
      obtain ⟨hvk, hlt, hr, hm⟩ := drop_cons hd
      have hl' : (l.map encS)[i]? = some (cS s) := by rw [List.getElem?_map, hvk]; exact congrArg some (encS_eq s)
      have ht := totL_mem hm
      rw [tot_eq] at ht
      rw [hd, redL, redS_eq] at i2
      have hfs := fineL_mem hf hm
      rw [fine_eq] at hfs
      obtain ⟨na, nb, ft, fe⟩ := hfs
      have cT := fun H => ihN s.thn (by omega) (by omega) ft H
      have cE' := fun H => ihN s.els (by omega) (by omega) fe H
      have cA := fun H => uses8_run x s.a (by omega) H
      have cB := fun H => uses8_run x s.b (by omega) H
      have nxt : redL l x = redL ss x → i + 1 ≤ l.length ∧ redL l x = redL (l.drop (i + 1)) x := fun h => ⟨by omega, by rw [h, hr]⟩
      cases ha : useE s.a x with
      | true =>
        rw [ha] at cA i2
        rw [Bool.true_or, Bool.true_or] at i2
        rw [i2]
        (have ww1 := hlt; have ww2 := hl'; have cc1 := fun z1 => cA z1; refine wkS ?_; clear ww1 ww2 cc1; (repeat' first | exact True.intro | refine Lf.mk ?_ ?_); all_goals intro hP)
        (refine resX ?_; try exact True.intro)
      | false =>
        rw [ha] at cA i2
        rw [Bool.false_or] at i2
        by_cases h2 : s.kind = 2
        · rw [decide_eq_true h2, Bool.true_and] at i2
          cases hb1 : useE s.b x with
          | true =>
            rw [hb1] at cB i2
            rw [Bool.true_or, Bool.true_or] at i2
            rw [i2]
            (have ww1 := hlt; have ww2 := hl'; have ww3 := h2; have cc1 := fun z1 => cA z1; have cc2 := fun z1 => cB z1; refine wkS ?_; clear ww1 ww2 ww3 cc1 cc2; (repeat' first | exact True.intro | refine Lf.mk ?_ ?_); all_goals intro hP)
            (refine resX ?_; try exact True.intro)
          | false =>
            rw [hb1] at cB i2
            rw [Bool.false_or] at i2
            cases ht1 : redL s.thn x with
            | true =>
              rw [ht1] at cT i2
              rw [Bool.true_or, Bool.true_or] at i2
              rw [i2]
              (have ww1 := hlt; have ww2 := hl'; have ww3 := h2; have cc1 := fun z1 => cA z1; have cc2 := fun z1 => cB z1; have cc3 := fun z1 => cT z1; refine wkS ?_; clear ww1 ww2 ww3 cc1 cc2 cc3; (repeat' first | exact True.intro | refine Lf.mk ?_ ?_); all_goals intro hP)
              (refine resX ?_; try exact True.intro)
            | false =>
              rw [ht1] at cT i2
              rw [Bool.false_or] at i2
              cases he1 : redL s.els x with
              | true =>
                rw [he1] at cE' i2
                rw [Bool.true_or] at i2
                rw [i2]
                (have ww1 := hlt; have ww2 := hl'; have ww3 := h2; have cc1 := fun z1 => cA z1; have cc2 := fun z1 => cB z1; have cc3 := fun z1 => cT z1; have cc4 := fun z1 => cE' z1; refine wkS ?_; clear ww1 ww2 ww3 cc1 cc2 cc3 cc4; (repeat' first | exact True.intro | refine Lf.mk ?_ ?_); all_goals intro hP)
                (refine resX ?_; try exact True.intro)
              | false =>
                rw [he1] at cE' i2
                rw [Bool.false_or] at i2
                (have ww1 := hlt; have ww2 := hl'; have ww3 := h2; have ww4 := hw; have cc1 := fun z1 => cA z1; have cc2 := fun z1 => cB z1; have cc3 := fun z1 => cT z1; have cc4 := fun z1 => cE' z1; refine wkS ?_; clear ww1 ww2 ww3 ww4 cc1 cc2 cc3 cc4; (repeat' first | exact True.intro | refine Lf.mk ?_ ?_); all_goals intro hP)
                refine ⟨i + 1, by omega, nxt i2, ?_⟩
                (refine dropX ?_; try exact True.intro)
        · have h2' : (s.kind == 2) = false := by simpa using h2
          rw [decide_eq_false h2, Bool.false_and, Bool.false_or] at i2
          (have ww1 := hlt; have ww2 := hl'; have ww3 := h2'; have ww4 := hw; have cc1 := fun z1 => cA z1; refine wkS ?_; clear ww1 ww2 ww3 ww4 cc1; (repeat' first | exact True.intro | refine Lf.mk ?_ ?_); all_goals intro hP)
          refine ⟨i + 1, by omega, nxt i2, ?_⟩
          (refine dropX ?_; try exact True.intro)
theorem PM.put {p : Prg} (h : PM p) {k : Nat} (hk : k < 5) {l : List St} (hl : wSL l ≤ wSL (handP p k)) : PM (putP p k l) :=
  ⟨by have := put_w hk hl; have := h.w; omega, h.l, h.z, h.zv⟩
theorem PM.only {p : Prg} (h : PM p) (k : Nat) : PM (onlyP p k) := ⟨by have := only_w (p := p) k; have := h.w; omega, h.l, h.z, h.zv⟩
theorem runM_is {p : Prg} {st : List Int} {x : Cal} (hc : callOk x = true) (hs : stIn p.vars st = true) (hv : validB p = true) : runM p st x = runP p.vars (handP p x.ev.toNat) st x := by
  unfold runM; rw [if_pos ⟨hc, hs, hv⟩]
theorem dr8_6_X30w : Drawn Tryz.prog 6 (regOps 6 ((Tryz.f8.body).getD .skip)) [1, 3, 5] [] [.win [0, 1, 2], .eff 0, .win [0, 1], .eff 1, .win [0, 1, 2], .eff 2, .win [3], .win [3], .win [3], .win [3], .win [3]] 3 [] := ⟨rfl, by as_aux_lemma => kernel_rfl⟩
theorem getH8 {p : Prg} (k : Nat) (h : k < 5) : [AV.pv (.sc (.string p.name)), .rs 5 (p.vars.map encV), .rs 13 (p.on0.map encS), .rs 13 (p.on1.map encS), .rs 13 (p.on2.map encS), .rs 13 (p.on3.map encS), .rs 13 (p.on4.map encS), .i p.window, .i p.pace][2 + k]? = some (.rs 13 ((handP p k).map encS)) := by
  rcases (show k = 0 ∨ k = 1 ∨ k = 2 ∨ k = 3 ∨ k = 4 by omega) with rfl | rfl | rfl | rfl | rfl <;> rfl
def setIn (x : Cal) (k v : Int) : Cal := if k = 0 then ⟨x.ev, v, x.i1, x.i2, x.i3⟩ else if k = 1 then ⟨x.ev, x.i0, v, x.i2, x.i3⟩ else if k = 2 then ⟨x.ev, x.i0, x.i1, v, x.i3⟩ else ⟨x.ev, x.i0, x.i1, x.i2, v⟩
theorem setIn_ok {x : Cal} (h : callOk x = true) (k v : Int) (h1 : 1 ≤ v) (h2 : v ≤ 256) : callOk (setIn x k v) = true := by
  unfold callOk at *
  have h := of_decide_eq_true h
  refine decide_eq_true ?_
  unfold setIn
  repeat' split
  all_goals simp only; omega
theorem setIn_ev (x : Cal) (k v : Int) : (setIn x k v).ev = x.ev := by unfold setIn; (repeat' split) <;> rfl
theorem setIn_same (x : Cal) (k v : Int) (hk : 0 ≤ k ∧ k < 4) : ∀ n : Int, 0 ≤ n → n < 4 → n ≠ k → inS (setIn x k v).i0 (setIn x k v).i1 (setIn x k v).i2 (setIn x k v).i3 n.toNat = inS x.i0 x.i1 x.i2 x.i3 n.toNat := by
  intro n n0 n4 hn
  have hk' : k = 0 ∨ k = 1 ∨ k = 2 ∨ k = 3 := by omega
  have hn' : n = 0 ∨ n = 1 ∨ n = 2 ∨ n = 3 := by omega
  rcases hk' with rfl | rfl | rfl | rfl <;> rcases hn' with rfl | rfl | rfl | rfl <;> first | (exact absurd rfl hn) | rfl
theorem MeaningInputs_run (p : Prg) (st : List Int) (x : Cal) (input by' : Int) (ha0 : 0 ≤ input) (ha1 : input ≤ 255) (hb0 : 0 ≤ by') (hb1 : by' ≤ 255) (hp : PF p) (H0 : List AObj) :
    ARun Tryz.prog 8 [.ag (cP p), .rs 1 (rI st), agL x, .pv (.sc (.int .u8 input)), .pv (.sc (.int .u8 by'))] H0 (.ret (.b true) H0) := by
  have hh := fun H => head8_run H
  have hu := fun H => usable8_run p hp st x H
  cases huse : useB p st x with
  | false =>
    rw [huse] at hu
    (refine ARun.intro Tryz.func8 rfl Tryz.call8 Tryz.ntmps8 Tryz.results8 ?_; simp only [List.length_cons, List.length_nil, List.length_map, Nat.reduceAdd, Nat.reduceSub, List.replicate_succ, List.replicate_zero, List.cons_append, List.nil_append])
    (have rr1 := dr8_6_X30w; have cc1 := fun z1 => hh z1; have cc2 := fun z1 => hu z1; refine wk ?_; clear rr1 cc1 cc2; (repeat' first | exact True.intro | refine Lf.mk ?_ ?_); all_goals intro hP)
    (refine resX ?_; try exact True.intro)
  | true =>
    rw [huse] at hu
    obtain ⟨hfew, hv, hs, hc⟩ := useB_all huse
    have pm := hp.pm hfew
    obtain ⟨us, V⟩ := validB_val hv
    have hL := val_hok V x.ev.toNat
    have hev5 := call_ev hc
    have c1 := fun H => pm.mrun st x H
    have hsl := stIn_len hs
    have hpl := (few5_all hfew).2.1
    have cF := fun (a b : AObj) => pm.mrunF st x (id := H0.length + 2) (n := st.length) (H := H0 ++ [a, b, .arr 3 1 (nR st)]) (getOk _ _ _) rfl
    simp only [setOk, List.set_cons_succ, List.set_cons_zero] at cF
    have hw1 : IntKind.i64.wrap input = input := wrap_of (by omega) (by omega)
    have hw2 : IntKind.i64.wrap by' = by' := wrap_of (by omega) (by omega)
    have hw3 : IntKind.i64.wrap (1 + by') = 1 + by' := wrap_of (by omega) (by omega)
    obtain ⟨e, he, he5⟩ : ∃ e : Nat, x.ev = (e : Int) ∧ e < 5 := ⟨x.ev.toNat, by omega, by omega⟩
    have het : x.ev.toNat = e := by omega
    have g1 := getH8 (p := p) e he5
    have b1 : (e : Int) < 5 := by omega
    have d1 : 2 + (e + 1) ≤ 9 := by omega
    have hk4 : input.tmod 4 = 0 ∨ input.tmod 4 = 1 ∨ input.tmod 4 = 2 ∨ input.tmod 4 = 3 := by rw [Int.tmod_eq_emod_of_nonneg ha0]; omega
    have hT : totL (handP p e) ≤ 1000000000 := by
      have h9 := pm.w
      have h8 := totL_le (handP p e)
      have : wSL (handP p e) ≤ 900000 := by unfold handP; (repeat' split) <;> omega
      omega
    have hfi : fineL (handP p e) := hand_fine (okP_of pm.w) e
    have cR := fun k H => reads8_run k _ (handP p e) (Nat.le_refl _) hT hfi H
    have c3 := fun k H => pm.mrun st (setIn x k (1 + by')) H
    have r3 : ∀ k : Int, 0 ≤ k ∧ k < 4 → redL (handP p e) k = false → runM p st (setIn x k (1 + by')) = runM p st x := by
      intro k hk hr
      rw [runM_is (setIn_ok hc k _ (by omega) (by omega)) hs hv, runM_is hc hs hv, setIn_ev, het]
      rw [het] at hL
      exact redL_same (setIn_same x k (1 + by') hk) _ hL.1 hr st
    have l2 := runM_len p st x
    have cI := fun H => Ints_run (runL (runM p st x)) (runL (runM p st x)) (by omega) H
    rw [beq_self_eq_true] at cI
    have f1 : st.length * 8 ≤ 140737488355328 := by omega
    have f2 : st.length ≤ 9223372036854775807 := by omega
    have q1 : (rI st).map (fun r => r.map AV.pv) = nR st := rfl
    have q2 := nR_len st
    have ls : (rI st).length = st.length := List.length_map _
    have hu2 : ∀ H, ARun Tryz.prog 19 [.ag (cP p), .rs 1 (rI st), .agg [.i e, .i x.i0, .i x.i1, .i x.i2, .i x.i3]] H (.ret (.b true) H) := by rw [← he]; exact hu
    have c12 : ∀ H, ARun Tryz.prog 16 [.ag (cP p), .rs 1 (rI st), .agg [.i e, .i x.i0, .i x.i1, .i x.i2, .i x.i3]] H (.ret (.tup [.rs 1 (rI (runL (runM p st x))), .i (runE (runM p st x))]) H) := by rw [← he]; exact c1
    have cF2 : ∀ (a b : AObj), ARun Tryz.prog 16 [.ag (cP p), .os (H0.length + 2) 0 st.length st.length, .agg [.i e, .i x.i0, .i x.i1, .i x.i2, .i x.i3]] (H0 ++ [a, b, .arr 3 1 (nR st)]) (.ret (.tup [.rs 1 (rI (runL (runM p st x))), .i (runE (runM p st x))]) (H0 ++ [a, b, .dead])) := by rw [← he]; exact cF
    clear hu c1 cF huse hL
    show ARun Tryz.prog 8 [.ag (cP p), .rs 1 (rI st), .agg [.i x.ev, .i x.i0, .i x.i1, .i x.i2, .i x.i3], .pv (.sc (.int .u8 input)), .pv (.sc (.int .u8 by'))] H0 (.ret (.b true) H0)
    rw [he]
    rcases hk4 with hk | hk | hk | hk
    all_goals
      have cR2 := cR (input.tmod 4)
      have c32 := c3 (input.tmod 4)
      have r32 := r3 (input.tmod 4) (by omega)
      clear cR c3 r3
      cases hrd : redL (handP p e) (input.tmod 4) with
      | true =>
        rw [hrd] at cR2
        rw [hk] at cR2
        (refine ARun.intro Tryz.func8 rfl Tryz.call8 Tryz.ntmps8 Tryz.results8 ?_; simp only [List.length_cons, List.length_nil, List.length_map, Nat.reduceAdd, Nat.reduceSub, List.replicate_succ, List.replicate_zero, List.cons_append, List.nil_append])
        repeat' (first | refine awp_seq ?_ | refine awp_block ?_ | refine awp_scope ?_ | ((first | refine awp_region_k fun Kn Kp hn hp => ?_ | show AWP _ _ (Code.region 6 _ true) _ _ _; refine awp_drawn_k (id := 6) [1, 3, 5] [] [.win [0, 1, 2], .eff 0, .win [0, 1], .eff 1, .win [0, 1, 2], .eff 2, .win [3], .win [3], .win [3], .win [3], .win [3]] 3 rfl (by as_aux_lemma => kernel_rfl) fun Kn Kp hn hp => ?_ | refine oge_intro (by assumption) ?_ | (show AWE _ _ _ _ _ _ _ _ _; first | refine awe_intro (hh _) ?_ | refine awe_intro (hu2 _) ?_ | refine awe_intro (c12 _) ?_ | refine awe_intro (cF2 _ _) ?_ | refine awe_intro (cI _) ?_ | refine awe_intro (cR2 _) ?_) | (show AWSF _ _ _ _ _ _ _ _ _ _ _; first | refine awsf_intro (hh _) (fun hrun => ?_) | refine awsf_intro (hu2 _) (fun hrun => ?_) | refine awsf_intro (c12 _) (fun hrun => ?_) | refine awsf_intro (cF2 _ _) (fun hrun => ?_) | refine awsf_intro (cI _) (fun hrun => ?_) | refine awsf_intro (cR2 _) (fun hrun => ?_)) | (show OGE _ _ _ _ _ _ _; first | refine oge_intro (hh _) ?_ | refine oge_intro (hu2 _) ?_ | refine oge_intro (c12 _) ?_ | refine oge_intro (cF2 _ _) ?_ | refine oge_intro (cI _) ?_ | refine oge_intro (cR2 _) ?_) | (show AWSE _ _ _ _ _ _ _ _ _ _ _; first | refine awse_intro (hh _) (fun hrun => ?_) | refine awse_intro (hu2 _) (fun hrun => ?_) | refine awse_intro (c12 _) (fun hrun => ?_) | refine awse_intro (cF2 _ _) (fun hrun => ?_) | refine awse_intro (cI _) (fun hrun => ?_) | refine awse_intro (cR2 _) (fun hrun => ?_)) | (show PGE _ _ _ _ _; first | refine pge_intro (hh _) (fun tm' => ?_) | refine pge_intro (hu2 _) (fun tm' => ?_) | refine pge_intro (c12 _) (fun tm' => ?_) | refine pge_intro (cF2 _ _) (fun tm' => ?_) | refine pge_intro (cI _) (fun tm' => ?_) | refine pge_intro (cR2 _) (fun tm' => ?_))) <;> (simp only [go_sem, Nat.reduceAdd, Nat.reduceSub, Nat.reduceMul, Nat.reduceLeDiff, Nat.reduceLT, Nat.reduceEqDiff, Int.reduceToNat, Int.reduceAdd, Int.reduceMul, Int.reduceSub, Int.reduceLT, Int.reduceLE, Int.reduceEq, Int.reduceNeg, Int.reduceBEq, Int.reduceBNe, ↓reduceIte, reduceCtorEq, hw1, hw2, hw3, hk, f1, f2, q1, q2, ls, List.nil_append, Nat.zero_add, beq_self_eq_true, Nat.mul_one, b1, d1, g1] <;> try simp (disch := omega) only [wrap_of])) | (refine hn _ _ ?_; clear hn hp Kn Kp) | (refine hp _ _ _ ?_; clear hn hp Kn Kp) | (refine awp_cond rfl (fun hb => ?_) (fun hb => ?_) <;> (try simp only [decide_eq_true_eq, decide_eq_false_iff_not, Bool.not_eq_true', Bool.not_eq_false', Bool.true_eq_false, Bool.false_eq_true, beq_iff_eq, bne_iff_ne, bne_eq_false_iff_eq, beq_eq_false_iff_ne, gt_iff_lt, ge_iff_le, Int.reduceEq, Int.reduceNe, Int.reduceLT, Int.reduceLE, ne_eq, not_true_eq_false, not_false_eq_true] at hb)) | ((first | refine awg_split (fun hb => ?_) (fun hb => ?_) | refine awsg_split (fun hb => ?_) (fun hb => ?_)) <;> have hb0 := hb <;> (try simp only [decide_eq_true_eq, decide_eq_false_iff_not, Bool.not_eq_true', Bool.not_eq_false', Bool.true_eq_false, Bool.false_eq_true, beq_iff_eq, bne_iff_ne, bne_eq_false_iff_eq, beq_eq_false_iff_ne, gt_iff_lt, ge_iff_le, Int.reduceEq, Int.reduceNe, Int.reduceLT, Int.reduceLE, ne_eq, not_true_eq_false, not_false_eq_true] at hb0) <;> (try simp only [beq_true, beq_false, Bool.not_eq_true', Bool.not_eq_false'] at hb) <;> (simp only [go_sem, Nat.reduceAdd, Nat.reduceSub, Nat.reduceMul, Nat.reduceLeDiff, Nat.reduceLT, Nat.reduceEqDiff, Int.reduceToNat, Int.reduceAdd, Int.reduceMul, Int.reduceSub, Int.reduceLT, Int.reduceLE, Int.reduceEq, Int.reduceNeg, Int.reduceBEq, Int.reduceBNe, ↓reduceIte, reduceCtorEq, hw1, hw2, hw3, hk, f1, f2, q1, q2, ls, List.nil_append, Nat.zero_add, beq_self_eq_true, Nat.mul_one, b1, d1, g1, hb, hb0] <;> try simp (disch := omega) only [wrap_of])) | (refine And.intro ?_ ?_) | refine awp_skip ?_ | refine awp_ret ?_ | refine awp_exit ?_ | refine awp_label ?_ | refine awloop_step ?_ | (simp only [go_sem, Nat.reduceAdd, Nat.reduceSub, Nat.reduceMul, Nat.reduceLeDiff, Nat.reduceLT, Nat.reduceEqDiff, Int.reduceToNat, Int.reduceAdd, Int.reduceMul, Int.reduceSub, Int.reduceLT, Int.reduceLE, Int.reduceEq, Int.reduceNeg, Int.reduceBEq, Int.reduceBNe, ↓reduceIte, reduceCtorEq, hw1, hw2, hw3, hk, f1, f2, q1, q2, ls, List.nil_append, Nat.zero_add, beq_self_eq_true, Nat.mul_one, b1, d1, g1]) | fail)
        (refine resX ?_; try exact True.intro)
      | false =>
        rw [hrd] at cR2
        rw [r32 hrd] at c32
        rw [hk] at cR2
        simp only [hk, setIn, agL, he, Int.reduceEq, if_true, if_false, reduceIte] at c32
        (refine ARun.intro Tryz.func8 rfl Tryz.call8 Tryz.ntmps8 Tryz.results8 ?_; simp only [List.length_cons, List.length_nil, List.length_map, Nat.reduceAdd, Nat.reduceSub, List.replicate_succ, List.replicate_zero, List.cons_append, List.nil_append])
        repeat' (first | refine awp_seq ?_ | refine awp_block ?_ | refine awp_scope ?_ | ((first | refine awp_region_k fun Kn Kp hn hp => ?_ | show AWP _ _ (Code.region 6 _ true) _ _ _; refine awp_drawn_k (id := 6) [1, 3, 5] [] [.win [0, 1, 2], .eff 0, .win [0, 1], .eff 1, .win [0, 1, 2], .eff 2, .win [3], .win [3], .win [3], .win [3], .win [3]] 3 rfl (by as_aux_lemma => kernel_rfl) fun Kn Kp hn hp => ?_ | refine oge_intro (by assumption) ?_ | (show AWE _ _ _ _ _ _ _ _ _; first | refine awe_intro (hh _) ?_ | refine awe_intro (hu2 _) ?_ | refine awe_intro (c12 _) ?_ | refine awe_intro (cF2 _ _) ?_ | refine awe_intro (cI _) ?_ | refine awe_intro (cR2 _) ?_ | refine awe_intro (c32 _) ?_) | (show AWSF _ _ _ _ _ _ _ _ _ _ _; first | refine awsf_intro (hh _) (fun hrun => ?_) | refine awsf_intro (hu2 _) (fun hrun => ?_) | refine awsf_intro (c12 _) (fun hrun => ?_) | refine awsf_intro (cF2 _ _) (fun hrun => ?_) | refine awsf_intro (cI _) (fun hrun => ?_) | refine awsf_intro (cR2 _) (fun hrun => ?_) | refine awsf_intro (c32 _) (fun hrun => ?_)) | (show OGE _ _ _ _ _ _ _; first | refine oge_intro (hh _) ?_ | refine oge_intro (hu2 _) ?_ | refine oge_intro (c12 _) ?_ | refine oge_intro (cF2 _ _) ?_ | refine oge_intro (cI _) ?_ | refine oge_intro (cR2 _) ?_ | refine oge_intro (c32 _) ?_) | (show AWSE _ _ _ _ _ _ _ _ _ _ _; first | refine awse_intro (hh _) (fun hrun => ?_) | refine awse_intro (hu2 _) (fun hrun => ?_) | refine awse_intro (c12 _) (fun hrun => ?_) | refine awse_intro (cF2 _ _) (fun hrun => ?_) | refine awse_intro (cI _) (fun hrun => ?_) | refine awse_intro (cR2 _) (fun hrun => ?_) | refine awse_intro (c32 _) (fun hrun => ?_)) | (show PGE _ _ _ _ _; first | refine pge_intro (hh _) (fun tm' => ?_) | refine pge_intro (hu2 _) (fun tm' => ?_) | refine pge_intro (c12 _) (fun tm' => ?_) | refine pge_intro (cF2 _ _) (fun tm' => ?_) | refine pge_intro (cI _) (fun tm' => ?_) | refine pge_intro (cR2 _) (fun tm' => ?_) | refine pge_intro (c32 _) (fun tm' => ?_))) <;> (simp only [go_sem, Nat.reduceAdd, Nat.reduceSub, Nat.reduceMul, Nat.reduceLeDiff, Nat.reduceLT, Nat.reduceEqDiff, Int.reduceToNat, Int.reduceAdd, Int.reduceMul, Int.reduceSub, Int.reduceLT, Int.reduceLE, Int.reduceEq, Int.reduceNeg, Int.reduceBEq, Int.reduceBNe, ↓reduceIte, reduceCtorEq, hw1, hw2, hw3, hk, f1, f2, q1, q2, ls, List.nil_append, Nat.zero_add, beq_self_eq_true, Nat.mul_one, b1, d1, g1] <;> try simp (disch := omega) only [wrap_of])) | (refine hn _ _ ?_; clear hn hp Kn Kp) | (refine hp _ _ _ ?_; clear hn hp Kn Kp) | (refine awp_cond rfl (fun hb => ?_) (fun hb => ?_) <;> (try simp only [decide_eq_true_eq, decide_eq_false_iff_not, Bool.not_eq_true', Bool.not_eq_false', Bool.true_eq_false, Bool.false_eq_true, beq_iff_eq, bne_iff_ne, bne_eq_false_iff_eq, beq_eq_false_iff_ne, gt_iff_lt, ge_iff_le, Int.reduceEq, Int.reduceNe, Int.reduceLT, Int.reduceLE, ne_eq, not_true_eq_false, not_false_eq_true] at hb)) | ((first | refine awg_split (fun hb => ?_) (fun hb => ?_) | refine awsg_split (fun hb => ?_) (fun hb => ?_)) <;> have hb0 := hb <;> (try simp only [decide_eq_true_eq, decide_eq_false_iff_not, Bool.not_eq_true', Bool.not_eq_false', Bool.true_eq_false, Bool.false_eq_true, beq_iff_eq, bne_iff_ne, bne_eq_false_iff_eq, beq_eq_false_iff_ne, gt_iff_lt, ge_iff_le, Int.reduceEq, Int.reduceNe, Int.reduceLT, Int.reduceLE, ne_eq, not_true_eq_false, not_false_eq_true] at hb0) <;> (try simp only [beq_true, beq_false, Bool.not_eq_true', Bool.not_eq_false'] at hb) <;> (simp only [go_sem, Nat.reduceAdd, Nat.reduceSub, Nat.reduceMul, Nat.reduceLeDiff, Nat.reduceLT, Nat.reduceEqDiff, Int.reduceToNat, Int.reduceAdd, Int.reduceMul, Int.reduceSub, Int.reduceLT, Int.reduceLE, Int.reduceEq, Int.reduceNeg, Int.reduceBEq, Int.reduceBNe, ↓reduceIte, reduceCtorEq, hw1, hw2, hw3, hk, f1, f2, q1, q2, ls, List.nil_append, Nat.zero_add, beq_self_eq_true, Nat.mul_one, b1, d1, g1, hb, hb0] <;> try simp (disch := omega) only [wrap_of])) | (refine And.intro ?_ ?_) | refine awp_skip ?_ | refine awp_ret ?_ | refine awp_exit ?_ | refine awp_label ?_ | refine awloop_step ?_ | (simp only [go_sem, Nat.reduceAdd, Nat.reduceSub, Nat.reduceMul, Nat.reduceLeDiff, Nat.reduceLT, Nat.reduceEqDiff, Int.reduceToNat, Int.reduceAdd, Int.reduceMul, Int.reduceSub, Int.reduceLT, Int.reduceLE, Int.reduceEq, Int.reduceNeg, Int.reduceBEq, Int.reduceBNe, ↓reduceIte, reduceCtorEq, hw1, hw2, hw3, hk, f1, f2, q1, q2, ls, List.nil_append, Nat.zero_add, beq_self_eq_true, Nat.mul_one, b1, d1, g1]) | fail)
        (refine resX ?_; try exact True.intro)
end Go.Proofs.YtpfjlifneibhfaaGreat.Y
