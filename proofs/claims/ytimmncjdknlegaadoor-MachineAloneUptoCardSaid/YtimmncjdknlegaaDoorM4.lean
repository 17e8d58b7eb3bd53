/- Part 4 of the proofs of seat YtimmncjdknlegaaDoor: what the texts behind it lean on (abstract memory, walks of functions, plain laws). -/
import Derived.Test.YtimmncjdknlegaaDoorM3
import Derived.Test.YtimmncjdknlegaaDoorRows

set_option maxHeartbeats 8000000
set_option maxRecDepth 100000
set_option linter.unusedVariables false
set_option linter.unusedSimpArgs false
set_option linter.unusedSectionVars false
namespace Go.Proofs.YtimmncjdknlegaaDoor.Y
open Go.Proofs.YtimmncjdknlegaaDoor.AL Go.Proofs Go
attribute [local irreducible] AWP AWL AWG AWR AWE AWX AWO AWSeq AWSG AWSR AWSO AWSE AWSF GoodP OGW OGR OGE OGX PGW PGR PGE Wk AWLoop AWPD AWLD
theorem dr22_6_X11i : Drawn Tryd.prog 6 (regOps 6 ((Tryd.f22.body).getD .skip)) [7, 8] [] [.win [0, 1], .win [0, 1], .win [0, 1], .win [0, 1], .win [0, 1], .win [0, 1], .win [0], .eff 0, .eff 1, .win [2]] 2 [] := ⟨rfl, by as_aux_lemma => kernel_rfl⟩
theorem dr22_12_X11i : Drawn Tryd.prog 12 (regOps 12 ((Tryd.f22.body).getD .skip)) [10, 11] [] [.win [0, 1], .win [0, 1], .win [0, 1], .win [0, 1], .win [0, 1], .win [0, 1], .win [0], .win [0], .win [0], .win [0], .eff 0, .eff 1, .win [2]] 2 [] := ⟨rfl, by as_aux_lemma => kernel_rfl⟩
theorem dr22_15_X11i : Drawn Tryd.prog 15 (regOps 15 ((Tryd.f22.body).getD .skip)) [1, 3, 7] [] [.win [0, 1, 2], .eff 0, .win [0, 1], .eff 1, .win [0, 1, 2], .win [0, 1, 2], .win [2], .eff 2, .win [3]] 3 [] := ⟨rfl, by as_aux_lemma => kernel_rfl⟩

theorem mrun_bad (vs : List Vr) (c : Cod) (st : List Int) (x : Cal) (h1 : vs.length ≤ 2000000) (h2 : st.length ≤ 2000000) (hf : CodFine c) (H0 : List AObj) (hfit : fitsS vs c st x = false) :
    ARun Tryd.prog 22 [.rs 5 (vs.map encV), agC c, .rs 1 (rI st), agL x] H0 (.ret (.tup [.pv (.sc (.pointer none)), .i 1]) H0) := by
  have g1 := fun H0 => CVerify_run c vs.length hf H0
  cases f1 : verC c vs.length with
  | false =>
    simp only [f1] at g1
    (refine ARun.intro Tryd.func22 rfl Tryd.call22 Tryd.ntmps22 Tryd.results22 ?_; simp only [List.length_cons, List.length_nil, List.length_map, Nat.reduceAdd, Nat.reduceSub, List.replicate_succ, List.replicate_zero, List.cons_append, List.nil_append])
    (have rr1 := dr22_6_X11i; have rr2 := dr22_12_X11i; have rr3 := dr22_15_X11i; have cc1 := fun z1 => g1 z1; refine wkO ?_; clear rr1 rr2 rr3 cc1; (repeat' first | exact True.intro | refine Lf.mk ?_ ?_); all_goals intro hP)
    (refine resX ?_; try exact True.intro)
  | true =>
  simp only [f1] at g1
  by_cases hlen : st.length = vs.length
  · have n0 := fun H0 => in_run 0 4 x.ev H0
    by_cases hev : 0 ≤ x.ev ∧ x.ev < 5
    · have b0 : (decide (0 ≤ x.ev) && decide (x.ev ≤ 4)) = true := by simp; omega
      simp only [b0] at n0
      have n1 := fun H0 => in_run 1 1000 x.i0 H0
      have n2 := fun H0 => in_run 1 10000000 x.i1 H0
      have n3 := fun H0 => in_run 1 10000 x.i2 H0
      have n4 := fun H0 => in_run 0 4000 x.i3 H0
      (refine ARun.intro Tryd.func22 rfl Tryd.call22 Tryd.ntmps22 Tryd.results22 ?_; simp only [List.length_cons, List.length_nil, List.length_map, Nat.reduceAdd, Nat.reduceSub, List.replicate_succ, List.replicate_zero, List.cons_append, List.nil_append])
      (have rr1 := dr22_6_X11i; have rr2 := dr22_12_X11i; have rr3 := dr22_15_X11i; have ww1 := hlen; have cc1 := fun z1 => g1 z1; have dd1 := n0 []; refine wkO ?_; clear rr1 rr2 rr3 ww1 cc1 dd1; (repeat' first | exact True.intro | refine Lf.mk ?_ ?_); all_goals intro hP)
      refine awp_loop 5 ?_
      (have rr1 := dr22_6_X11i; have rr2 := dr22_12_X11i; have rr3 := dr22_15_X11i; have ww1 := hlen; have dd1 := n1 []; have dd2 := n2 []; have dd3 := n3 []; have dd4 := n4 []; refine wkO ?_; clear rr1 rr2 rr3 ww1 dd1 dd2 dd3 dd4; (repeat' first | exact True.intro | refine Lf.mk ?_ ?_); all_goals intro hP)
      · (refine resX ?_; try exact True.intro)
      · (refine resX ?_; try exact True.intro)
      · (refine resX ?_; try exact True.intro)
      · (refine resX ?_; try exact True.intro)
      have hcall : callOk x = true := decide_pos' (by omega)
      refine awp_loop_ind (σ := Nat) (fun k => vs.length - k) (fun k => k ≤ vs.length ∧ stOk vs st = stOk (vs.drop k) (st.drop k))
        (fun k => (.rs 5 (vs.map encV) :: .any :: .rs 1 (rI st) :: .any :: .any :: .p H0.length 0 :: .any :: .p (H0.length + 1) 0 :: .pv (.sc (.pointer none)) :: .any :: .any :: .any :: .any :: .any :: .any :: .any :: .any :: .any :: .any :: .any :: .any :: .any :: .any :: .any :: .any :: .any :: .any :: .any :: .any :: .any :: .any :: .any :: .any :: .any :: .any :: .any :: .any :: .any :: .any :: .any :: .any :: .any :: .any :: .any :: .any :: .any :: .any :: .any :: .any :: .any :: .any :: .any :: .any :: .rs 5 (vs.map encV) :: .i vs.length :: .i k :: .any :: .any :: .any :: .any :: .any :: .any :: .any :: .any :: .any :: .any :: .any :: .any :: .any :: .any :: .any :: .any :: .any :: .any :: .any :: .any :: .any :: .any :: .any :: .any :: .any :: .any :: .any :: .any :: .any :: .any :: .any :: .any :: .any :: .any :: .any :: .any :: .any :: .any :: .any :: .any :: .any :: .any :: .any :: .any :: .any :: .any :: .any :: .any :: .any :: .any :: .any :: []))
        (fun k => H0 ++ [.cells 26 [.rs 3 (c.c0.map encI), .rs 3 (c.c1.map encI), .rs 3 (c.c2.map encI), .rs 3 (c.c3.map encI), .rs 3 (c.c4.map encI)], .cells 30 [.i x.ev, .i x.i0, .i x.i1, .i x.i2, .i x.i3]]) 0 ⟨Nat.zero_le _, by simp⟩ ?_ ?_
      · refine Wk.keepE 2 1 (by rfl) (by simp) (by intro o ho; simp only [List.mem_cons, List.not_mem_nil, or_false] at ho; rcases ho with rfl | rfl <;> (intro c hc; simp only [List.mem_cons, List.not_mem_nil, or_false] at hc; rcases hc with rfl | rfl | rfl | rfl | rfl <;> simp only [AV.under])) ?_
        simp only [List.map_cons, List.map_nil, AV.low, Fgt, if_true, true_or, or_true, and_true, true_and, Nat.lt_add_right_iff_pos, Nat.add_lt_add_iff_left, Nat.reduceLT, Int.natCast_zero, Int.cast_ofNat_Int]
      · rintro k ⟨hk, hs⟩
        by_cases hkl : k = vs.length
        · exfalso
          subst hkl
          rw [List.drop_eq_nil_of_le (Nat.le_refl _), List.drop_eq_nil_of_le (by omega)] at hs
          have : fitsS vs c st x = true := by simp only [fitsS, f1, hs, hcall, stOk, Bool.and_self]
          rw [this] at hfit; cases hfit
        · have hklt : k < vs.length := by omega
          have hklI : (k : Int) < vs.length := by omega
          have hvk := getEV hklt
          have hsk := getEI (l := st) (k := k) (by omega)
          have hv' : (vs.map encV)[k]? = some (cV (vs.getD k dV)) := by rw [List.getElem?_map, hvk]; rfl
          have hs' : (rI st)[k]? = some [.i (st.getD k 0)] := by rw [List.getElem?_map, hsk]; rfl
          have hw : IntKind.i64.wrap ((k : Int) + 1) = ((k + 1 : Nat) : Int) := by rw [wrap_of (by omega) (by omega)]; omega
          have hvd : vs.drop k = vs.getD k dV :: vs.drop (k + 1) := by
            rw [List.drop_eq_getElem_cons hklt]; congr 1; rw [List.getElem?_eq_getElem hklt] at hvk; exact Option.some.inj hvk
          have hsd : st.drop k = st.getD k 0 :: st.drop (k + 1) := by
            have hkst : k < st.length := by omega
            rw [List.drop_eq_getElem_cons hkst]; congr 1; rw [List.getElem?_eq_getElem hkst] at hsk; exact Option.some.inj hsk
          rw [hvd, hsd] at hs
          have n5 := fun H0 => in_run (if (vs.getD k dV).low < -1000000000000 then -1000000000000 else (vs.getD k dV).low) (if 1000000000000 < (vs.getD k dV).high then 1000000000000 else (vs.getD k dV).high) (st.getD k 0) H0
          by_cases hbd : -1000000000000 ≤ st.getD k 0 ∧ st.getD k 0 ≤ 1000000000000 ∧ (vs.getD k dV).low ≤ st.getD k 0 ∧ st.getD k 0 ≤ (vs.getD k dV).high
          · have b5 : (decide ((if (vs.getD k dV).low < -1000000000000 then -1000000000000 else (vs.getD k dV).low) ≤ st.getD k 0) && decide (st.getD k 0 ≤ (if 1000000000000 < (vs.getD k dV).high then 1000000000000 else (vs.getD k dV).high))) = true := by
              simp only [Bool.and_eq_true, decide_eq_true_eq]; constructor <;> split <;> omega
            simp only [b5] at n5
            (have rr1 := dr22_6_X11i; have rr2 := dr22_12_X11i; have rr3 := dr22_15_X11i; have ww1 := hlen; have ww2 := hklI; have ww3 := hvk; have ww4 := hsk; have ww5 := hv'; have ww6 := hs'; have ww7 := hw; have dd1 := n5 []; refine wk ?_; clear rr1 rr2 rr3 ww1 ww2 ww3 ww4 ww5 ww6 ww7 dd1; (repeat' first | exact True.intro | refine Lf.mk ?_ ?_); all_goals intro hP)
            refine ⟨k + 1, by omega, ⟨by omega, by rw [hs]; simp only [stOk]; rw [decide_pos' hbd, Bool.true_and]⟩, ?_⟩
            refine Wk.keepE 2 1 (by rfl) (by simp) (by intro o ho; simp only [List.mem_cons, List.not_mem_nil, or_false] at ho; rcases ho with rfl | rfl <;> (intro c hc; simp only [List.mem_cons, List.not_mem_nil, or_false] at hc; rcases hc with rfl | rfl | rfl | rfl | rfl <;> simp only [AV.under])) ?_
            simp only [List.map_cons, List.map_nil, AV.low, Fgt, if_true, true_or, or_true, and_true, true_and, Nat.lt_add_right_iff_pos, Nat.add_lt_add_iff_left, Nat.reduceLT]
          · have b5 : (decide ((if (vs.getD k dV).low < -1000000000000 then -1000000000000 else (vs.getD k dV).low) ≤ st.getD k 0) && decide (st.getD k 0 ≤ (if 1000000000000 < (vs.getD k dV).high then 1000000000000 else (vs.getD k dV).high))) = false := by
              rw [Bool.eq_false_iff]; simp only [ne_eq, Bool.and_eq_true, decide_eq_true_eq]; split <;> split <;> omega
            simp only [b5] at n5
            (have rr1 := dr22_6_X11i; have rr2 := dr22_12_X11i; have rr3 := dr22_15_X11i; have ww1 := hlen; have ww2 := hklI; have ww3 := hvk; have ww4 := hsk; have ww5 := hv'; have ww6 := hs'; have ww7 := hw; have dd1 := n5 []; refine wk ?_; clear rr1 rr2 rr3 ww1 ww2 ww3 ww4 ww5 ww6 ww7 dd1; (repeat' first | exact True.intro | refine Lf.mk ?_ ?_); all_goals intro hP)
            (refine resX ?_; try exact True.intro)
    · have b0 : (decide (0 ≤ x.ev) && decide (x.ev ≤ 4)) = false := by simp; omega
      simp only [b0] at n0
      (refine ARun.intro Tryd.func22 rfl Tryd.call22 Tryd.ntmps22 Tryd.results22 ?_; simp only [List.length_cons, List.length_nil, List.length_map, Nat.reduceAdd, Nat.reduceSub, List.replicate_succ, List.replicate_zero, List.cons_append, List.nil_append])
      (have rr1 := dr22_6_X11i; have rr2 := dr22_12_X11i; have rr3 := dr22_15_X11i; have ww1 := hlen; have cc1 := fun z1 => g1 z1; have dd1 := n0 []; refine wkO ?_; clear rr1 rr2 rr3 ww1 cc1 dd1; (repeat' first | exact True.intro | refine Lf.mk ?_ ?_); all_goals intro hP)
      (refine resX ?_; try exact True.intro)
  · have hb2 : ((st.length : Int) != vs.length) = true := by simp; omega
    (refine ARun.intro Tryd.func22 rfl Tryd.call22 Tryd.ntmps22 Tryd.results22 ?_; simp only [List.length_cons, List.length_nil, List.length_map, Nat.reduceAdd, Nat.reduceSub, List.replicate_succ, List.replicate_zero, List.cons_append, List.nil_append])
    (have rr1 := dr22_6_X11i; have rr2 := dr22_12_X11i; have rr3 := dr22_15_X11i; have ww1 := hb2; have cc1 := fun z1 => g1 z1; refine wkO ?_; clear rr1 rr2 rr3 ww1 cc1; (repeat' first | exact True.intro | refine Lf.mk ?_ ?_); all_goals intro hP)
    (refine resX ?_; try exact True.intro)
end Go.Proofs.YtimmncjdknlegaaDoor.Y

set_option maxHeartbeats 8000000
set_option maxRecDepth 100000
set_option linter.unusedVariables false
set_option linter.unusedSimpArgs false
set_option linter.unusedSectionVars false
namespace Go.Proofs.YtimmncjdknlegaaDoor.Y
open Go.Proofs.YtimmncjdknlegaaDoor.AL Go.Proofs Go
attribute [local irreducible] AWP AWL AWG AWR AWE AWX AWO AWSeq AWSG AWSR AWSO AWSE AWSF GoodP OGW OGR OGE OGX PGW PGR PGE Wk AWLoop AWPD AWLD

theorem mcP_get1 {vs : List Vr} {now : List Int} {i0 i1 i2 i3 : Int} {stk : List Int} {h at' st : Int} : ∃ r, (mcP vs now i0 i1 i2 i3 stk h at' st).drop 1 = .rs 1 (rI now) :: r := ⟨_, rfl⟩
section
variable (vs : List Vr) (c : Cod) (st : List Int) (x : Cal) (h1 : vs.length ≤ 2000000) (h2 : st.length ≤ 2000000) (hf : CodFine c) (H0 : List AObj)
include h1 h2 hf
theorem MRun_run : ARun Tryd.prog 9 [.rs 5 (vs.map encV), agC c, .rs 1 (rI st), agL x] H0
    (.ret (.tup [.rs 1 (rI (runL (refRunS vs c st x))), .i (runE (refRunS vs c st x))]) H0) := by
  cases hfit : fitsS vs c st x with
  | false =>
    have g := fun H0 => mrun_bad vs c st x h1 h2 hf H0 hfit
    (refine ARun.intro Tryd.func9 rfl Tryd.call9 Tryd.ntmps9 Tryd.results9 ?_; simp only [List.length_cons, List.length_nil, List.length_map, Nat.reduceAdd, Nat.reduceSub, List.replicate_succ, List.replicate_zero, List.cons_append, List.nil_append])
    (have cc1 := fun z1 => g z1; refine wkO ?_; clear cc1; (repeat' first | exact True.intro | refine Lf.mk ?_ ?_); all_goals intro hP)
    refine ⟨_, rfl, _, rfl, Fin.pureC 2 ?_⟩
    simp only [AV.low, List.map_cons, List.map_nil, refRunS, hfit, Bool.false_eq_true, if_false, runL, runE]
    exact Cv.tup ⟨Cv.nil (by decide), Cv.refl _, trivial⟩
  | true =>
    cases hr : (runS vs c st x).1 with
    | ok s =>
      obtain ⟨now, stk, h, a, q1, q2, g⟩ := mrun_ok vs c st x h1 h2 hf (H0 ++ [.cells 26 [.rs 3 (c.c0.map encI), .rs 3 (c.c1.map encI), .rs 3 (c.c2.map encI), .rs 3 (c.c3.map encI), .rs 3 (c.c4.map encI)], .cells 30 [.i x.ev, .i x.i0, .i x.i1, .i x.i2, .i x.i3]]) hfit
      have hn := q2 s hr
      subst hn
      rw [hr] at g
      obtain ⟨r, hd⟩ := mcP_get1 (vs := vs) (now := now) (i0 := x.i0) (i1 := x.i1) (i2 := x.i2) (i3 := x.i3) (stk := stk) (h := h) (at' := a) (st := (runS vs c st x).2)
      simp only [runE] at g
      (refine ARun.intro Tryd.func9 rfl Tryd.call9 Tryd.ntmps9 Tryd.results9 ?_; simp only [List.length_cons, List.length_nil, List.length_map, Nat.reduceAdd, Nat.reduceSub, List.replicate_succ, List.replicate_zero, List.cons_append, List.nil_append])
      repeat' (first | refine awp_seq ?_ | refine awp_block ?_ | refine awp_scope ?_ | ((first | refine awp_region_k fun Kn Kp hn hp => ?_ | refine oge_intro (by assumption) ?_ | (show AWE _ _ _ _ _ _ _ _ _; first | refine awe_intro (g) ?_) | (show AWSF _ _ _ _ _ _ _ _ _ _ _; first | refine awsf_intro (g) (fun hrun => ?_)) | (show OGE _ _ _ _ _ _ _; first | refine oge_intro (g) ?_) | (show AWSE _ _ _ _ _ _ _ _ _ _ _; first | refine awse_intro (g) (fun hrun => ?_)) | (show PGE _ _ _ _ _; first | refine pge_intro (g) (fun tm' => ?_))) <;> (simp only [go_sem, Nat.reduceAdd, Nat.reduceSub, Nat.reduceMul, Nat.reduceLeDiff, Nat.reduceLT, Nat.reduceEqDiff, Int.reduceToNat, Int.reduceAdd, Int.reduceMul, Int.reduceSub, Int.reduceLT, Int.reduceLE, Int.reduceEq, Int.reduceNeg, Int.reduceBEq, Int.reduceBNe, ↓reduceIte, reduceCtorEq, hd, List.drop_zero, Nat.le_add_left] <;> try simp (disch := omega) only [wrap_of])) | (refine hn _ _ ?_; clear hn hp Kn Kp) | (refine hp _ _ _ ?_; clear hn hp Kn Kp) | (simp (disch := omega) only [getSkip16, setSkip16, getAt1, setAt1, getAt2, setAt2, getAt3, setAt3, getAt4, setAt4, getAt5, setAt5, getAt6, setAt6, getAt7, setAt7, getAt8, setAt8, getAt9, setAt9, getAt10, setAt10, getAt11, setAt11, getAt12, setAt12, getAt13, setAt13, getAt14, setAt14, getAt15, setAt15, go_sem, Nat.reduceAdd, Nat.reduceSub, Nat.reduceMul, Nat.reduceLeDiff, Nat.reduceLT, Nat.reduceEqDiff, Int.reduceToNat, Int.reduceAdd, Int.reduceMul, Int.reduceSub, Int.reduceLT, Int.reduceLE, Int.reduceEq, Int.reduceNeg, Int.reduceBEq, Int.reduceBNe, ↓reduceIte, reduceCtorEq, hd, List.drop_zero, Nat.le_add_left, if_pos, if_neg, decide_pos', decide_neg', beq_pos', beq_neg', bne_pos', bne_neg', getE, wrap_of]) | (refine awp_cond_t rfl (by first | with_reducible rfl | (simp only [Bool.and_eq_true, Bool.or_eq_true, Bool.and_eq_false_iff, Bool.or_eq_false_iff, decide_eq_true_eq, decide_eq_false_iff_not, beq_iff_eq, bne_iff_ne, bne_eq_false_iff_eq, beq_eq_false_iff_ne, ne_eq, Bool.not_eq_true', Bool.not_eq_false', not_true_eq_false, not_false_eq_true]; omega)) ?_) | (refine awp_cond_f rfl (by first | with_reducible rfl | (simp only [Bool.and_eq_true, Bool.or_eq_true, Bool.and_eq_false_iff, Bool.or_eq_false_iff, decide_eq_true_eq, decide_eq_false_iff_not, beq_iff_eq, bne_iff_ne, bne_eq_false_iff_eq, beq_eq_false_iff_ne, ne_eq, Bool.not_eq_true', Bool.not_eq_false', not_true_eq_false, not_false_eq_true]; omega)) ?_) | (refine awp_cond rfl (fun hb => ?_) (fun hb => ?_) <;> (try simp only [decide_eq_true_eq, decide_eq_false_iff_not, Bool.not_eq_true', Bool.not_eq_false', Bool.true_eq_false, Bool.false_eq_true, beq_iff_eq, bne_iff_ne, Bool.or_eq_true, Bool.and_eq_true, Bool.or_eq_false_iff, Bool.and_eq_false_iff, bne_eq_false_iff_eq, beq_eq_false_iff_ne, gt_iff_lt, ge_iff_le, Int.reduceEq, Int.reduceNe, Int.reduceLT, Int.reduceLE, ne_eq, not_true_eq_false, not_false_eq_true] at hb)) | ((first | refine awg_split (fun hb => ?_) (fun hb => ?_) | refine awsg_split (fun hb => ?_) (fun hb => ?_)) <;> have hb0 := hb <;> (try simp only [decide_eq_true_eq, decide_eq_false_iff_not, Bool.not_eq_true', Bool.not_eq_false', Bool.true_eq_false, Bool.false_eq_true, beq_iff_eq, bne_iff_ne, Bool.or_eq_true, Bool.and_eq_true, Bool.or_eq_false_iff, Bool.and_eq_false_iff, bne_eq_false_iff_eq, beq_eq_false_iff_ne, gt_iff_lt, ge_iff_le, Int.reduceEq, Int.reduceNe, Int.reduceLT, Int.reduceLE, ne_eq, not_true_eq_false, not_false_eq_true] at hb0) <;> (try simp only [beq_true, beq_false, Bool.not_eq_true', Bool.not_eq_false'] at hb) <;> (simp only [go_sem, Nat.reduceAdd, Nat.reduceSub, Nat.reduceMul, Nat.reduceLeDiff, Nat.reduceLT, Nat.reduceEqDiff, Int.reduceToNat, Int.reduceAdd, Int.reduceMul, Int.reduceSub, Int.reduceLT, Int.reduceLE, Int.reduceEq, Int.reduceNeg, Int.reduceBEq, Int.reduceBNe, ↓reduceIte, reduceCtorEq, hd, List.drop_zero, Nat.le_add_left, hb, hb0] <;> try simp (disch := omega) only [wrap_of])) | (refine And.intro ?_ ?_) | refine awp_skip ?_ | refine awp_ret ?_ | refine awp_exit ?_ | refine awp_label ?_ | refine awloop_step ?_ | fail)
      (refine resX ?_; try exact True.intro)
      simp [refRunS, hfit, hr, runL, runE]
    | error e =>
      have he := trace_ne hr
      obtain ⟨now, stk, h, a, q1, q2, g⟩ := mrun_ok vs c st x h1 h2 hf (H0 ++ [.cells 26 [.rs 3 (c.c0.map encI), .rs 3 (c.c1.map encI), .rs 3 (c.c2.map encI), .rs 3 (c.c3.map encI), .rs 3 (c.c4.map encI)], .cells 30 [.i x.ev, .i x.i0, .i x.i1, .i x.i2, .i x.i3]]) hfit
      rw [hr] at g
      simp only [runE] at g
      (refine ARun.intro Tryd.func9 rfl Tryd.call9 Tryd.ntmps9 Tryd.results9 ?_; simp only [List.length_cons, List.length_nil, List.length_map, Nat.reduceAdd, Nat.reduceSub, List.replicate_succ, List.replicate_zero, List.cons_append, List.nil_append])
      (have cc1 := g; refine wkO ?_; clear cc1; (repeat' first | exact True.intro | refine Lf.mk ?_ ?_); all_goals intro hP)
      refine ⟨_, rfl, _, rfl, Fin.pureC 2 ?_⟩
      simp only [AV.low, List.map_cons, List.map_nil, refRunS, hfit, if_true, hr, runL, runE]
      exact Cv.tup ⟨Cv.nil (by decide), Cv.refl _, trivial⟩
theorem MSteps_run : ARun Tryd.prog 11 [.rs 5 (vs.map encV), agC c, .rs 1 (rI st), agL x] H0
    (.ret (.tup [.i (stepsN vs c st x), .i (stepsE vs c st x)]) H0) := by
  cases hfit : fitsS vs c st x with
  | false =>
    have g := fun H0 => mrun_bad vs c st x h1 h2 hf H0 hfit
    (refine ARun.intro Tryd.func11 rfl Tryd.call11 Tryd.ntmps11 Tryd.results11 ?_; simp only [List.length_cons, List.length_nil, List.length_map, Nat.reduceAdd, Nat.reduceSub, List.replicate_succ, List.replicate_zero, List.cons_append, List.nil_append])
    (have cc1 := fun z1 => g z1; refine wkO ?_; clear cc1; (repeat' first | exact True.intro | refine Lf.mk ?_ ?_); all_goals intro hP)
    (refine resX ?_; try exact True.intro)
    simp [stepsN, stepsE, hfit]
  | true =>
    obtain ⟨now, stk, h, a, q1, q2, g⟩ := mrun_ok vs c st x h1 h2 hf (H0 ++ [.cells 26 [.rs 3 (c.c0.map encI), .rs 3 (c.c1.map encI), .rs 3 (c.c2.map encI), .rs 3 (c.c3.map encI), .rs 3 (c.c4.map encI)], .cells 30 [.i x.ev, .i x.i0, .i x.i1, .i x.i2, .i x.i3]]) hfit
    have hd := mcP_drop (vs := vs) (now := now) (i0 := x.i0) (i1 := x.i1) (i2 := x.i2) (i3 := x.i3) (h := h) (at' := a) (st := (runS vs c st x).2) q1
    (refine ARun.intro Tryd.func11 rfl Tryd.call11 Tryd.ntmps11 Tryd.results11 ?_; simp only [List.length_cons, List.length_nil, List.length_map, Nat.reduceAdd, Nat.reduceSub, List.replicate_succ, List.replicate_zero, List.cons_append, List.nil_append])
    (have ww1 := hd; have cc1 := g; refine wkO ?_; clear ww1 cc1; (repeat' first | exact True.intro | refine Lf.mk ?_ ?_); all_goals intro hP)
    (refine resX ?_; try exact True.intro)
    simp [stepsN, stepsE, hfit]
end
end Go.Proofs.YtimmncjdknlegaaDoor.Y

set_option maxHeartbeats 8000000
set_option maxRecDepth 100000
set_option linter.unusedVariables false
set_option linter.unusedSimpArgs false
set_option linter.unusedSectionVars false
namespace Go.Proofs.YtimmncjdknlegaaDoor.Y
open Go.Proofs.YtimmncjdknlegaaDoor.AL Go.Proofs Go
attribute [local irreducible] AWP AWL AWG AWR AWE AWX AWO AWSeq AWSG AWSR AWSO AWSE AWSF GoodP OGW OGR OGE OGX PGW PGR PGE Wk AWLoop AWPD AWLD

theorem call_run (e : Int) (H0 : List AObj) : ARun Tryd.prog 21 [.i e] H0 (.ret (agL ⟨e, 1, 1, 1, 0⟩) H0) := by
  (refine ARun.intro Tryd.func21 rfl Tryd.call21 Tryd.ntmps21 Tryd.results21 ?_; simp only [List.length_cons, List.length_nil, List.length_map, Nat.reduceAdd, Nat.reduceSub, List.replicate_succ, List.replicate_zero, List.cons_append, List.nil_append])
  (refine wk ?_; (repeat' first | exact True.intro | refine Lf.mk ?_ ?_); all_goals intro hP)
  (refine resX ?_; try exact True.intro)
def halv (by' : Int) : Cod := ⟨[], [⟨2, 0, 0⟩, ⟨1, by', 0⟩, ⟨7, 0, 0⟩, ⟨11, 0, 0⟩], [], [], []⟩
theorem halving_run (b : Int) (H0 : List AObj) : ARun Tryd.prog 19 [.i b] H0 (.ret (agC (halv b)) H0) := by
  (refine ARun.intro Tryd.func19 rfl Tryd.call19 Tryd.ntmps19 Tryd.results19 ?_; simp only [List.length_cons, List.length_nil, List.length_map, Nat.reduceAdd, Nat.reduceSub, List.replicate_succ, List.replicate_zero, List.cons_append, List.nil_append])
  (refine wk ?_; (repeat' first | exact True.intro | refine Lf.mk ?_ ?_); all_goals intro hP)
  (refine resC ?_; (repeat' (first | exact True.intro | refine Lf.mk ?_ ?_)))
  exact Cv.agg ⟨Cv.nil (by decide), Cv.refl _, Cv.nil (by decide), Cv.nil (by decide), Cv.nil (by decide), trivial⟩
def vW : Vr := ⟨⟨#[119]⟩, 0, 1, 100, 0⟩
theorem vars_run (H0 : List AObj) : ARun Tryd.prog 20 [] H0 (.ret (.rs 5 ([vW].map encV)) H0) := by
  (refine ARun.intro Tryd.func20 rfl Tryd.call20 Tryd.ntmps20 Tryd.results20 ?_; simp only [List.length_cons, List.length_nil, List.length_map, Nat.reduceAdd, Nat.reduceSub, List.replicate_succ, List.replicate_zero, List.cons_append, List.nil_append])
  (refine wk ?_; (repeat' first | exact True.intro | refine Lf.mk ?_ ?_); all_goals intro hP)
  (refine resC ?_; (repeat' (first | exact True.intro | refine Lf.mk ?_ ?_)))
  simp only [Nat.le_refl, if_true]
  exact Cv.refl _
/-- What 'is' says. -/
def isS (c : Cod) (ev want f steps : Int) : Bool :=
  if f = 0 then ((runE (refRunS [vW] c [7] ⟨ev, 1, 1, 1, 0⟩) == 0) && (runL (refRunS [vW] c [7] ⟨ev, 1, 1, 1, 0⟩) == [want]) && (stepsE [vW] c [7] ⟨ev, 1, 1, 1, 0⟩ == 0) && (stepsN [vW] c [7] ⟨ev, 1, 1, 1, 0⟩ == steps))
  else ((runE (refRunS [vW] c [7] ⟨ev, 1, 1, 1, 0⟩) == f) && (((runL (refRunS [vW] c [7] ⟨ev, 1, 1, 1, 0⟩)).length : Int) == 0) && (stepsE [vW] c [7] ⟨ev, 1, 1, 1, 0⟩ == 0) && (stepsN [vW] c [7] ⟨ev, 1, 1, 1, 0⟩ == steps))
theorem is_run (c : Cod) (hf : CodFine c) (ev want f steps : Int) (H0 : List AObj) :
    ARun Tryd.prog 18 [agC c, .i ev, .i want, .i f, .i steps] H0 (.ret (.b (isS c ev want f steps)) H0) := by
  have g0 := fun H0 => vars_run H0
  have g1 := fun H0 => call_run ev H0
  have g2 := fun H0 => MRun_run [vW] c [7] ⟨ev, 1, 1, 1, 0⟩ (by simp) (by simp) hf H0
  have g3 := fun H0 => MSteps_run [vW] c [7] ⟨ev, 1, 1, 1, 0⟩ (by simp) (by simp) hf H0
  have g4 := fun H0 => Ints_run (runL (refRunS [vW] c [7] ⟨ev, 1, 1, 1, 0⟩)) [want] (by have := refRun_len [vW] c [7] ⟨ev, 1, 1, 1, 0⟩; simp at this; omega) H0
  (refine ARun.intro Tryd.func18 rfl Tryd.call18 Tryd.ntmps18 Tryd.results18 ?_; simp only [List.length_cons, List.length_nil, List.length_map, Nat.reduceAdd, Nat.reduceSub, List.replicate_succ, List.replicate_zero, List.cons_append, List.nil_append])
  repeat' (first | refine awp_seq ?_ | refine awp_block ?_ | refine awp_scope ?_ | ((first | refine awp_region_k fun Kn Kp hn hp => ?_ | show AWP _ _ (Code.region 1 _ true) _ _ _; refine awp_drawn_k (id := 1) [2, 5] [] [.win [0, 1], .win [0, 1], .eff 0, .win [0, 1], .win [0, 1], .eff 1, .win [2], .win [2], .win [2], .win [2], .win [2]] 2 rfl (by as_aux_lemma => kernel_rfl) fun Kn Kp hn hp => ?_ | show AWP _ _ (Code.region 2 _ true) _ _ _; refine awp_drawn_k (id := 2) [2, 5] [] [.win [0, 1], .win [0, 1], .eff 0, .win [0, 1], .win [0, 1], .eff 1, .win [2], .win [2], .win [2], .win [2], .win [2]] 2 rfl (by as_aux_lemma => kernel_rfl) fun Kn Kp hn hp => ?_ | refine oge_intro (by assumption) ?_ | (show AWE _ _ _ _ _ _ _ _ _; first | refine awe_intro (g0 _) ?_ | refine awe_intro (g1 _) ?_) | (show AWSF _ _ _ _ _ _ _ _ _ _ _; first | refine awsf_intro (g0 _) (fun hrun => ?_) | refine awsf_intro (g1 _) (fun hrun => ?_)) | (show OGE _ _ _ _ _ _ _; first | refine oge_intro (g0 _) ?_ | refine oge_intro (g1 _) ?_) | (show AWSE _ _ _ _ _ _ _ _ _ _ _; first | refine awse_intro (g0 _) (fun hrun => ?_) | refine awse_intro (g1 _) (fun hrun => ?_)) | (show PGE _ _ _ _ _; first | refine pge_intro (g0 _) (fun tm' => ?_) | refine pge_intro (g1 _) (fun tm' => ?_))) <;> (simp only [go_sem, Nat.reduceAdd, Nat.reduceSub, Nat.reduceMul, Nat.reduceLeDiff, Nat.reduceLT, Nat.reduceEqDiff, Int.reduceToNat, Int.reduceAdd, Int.reduceMul, Int.reduceSub, Int.reduceLT, Int.reduceLE, Int.reduceEq, Int.reduceNeg, Int.reduceBEq, Int.reduceBNe, ↓reduceIte, reduceCtorEq] <;> try simp (disch := omega) only [wrap_of])) | (refine hn _ _ ?_; clear hn hp Kn Kp) | (refine hp _ _ _ ?_; clear hn hp Kn Kp) | (simp (disch := omega) only [getSkip16, setSkip16, getAt1, setAt1, getAt2, setAt2, getAt3, setAt3, getAt4, setAt4, getAt5, setAt5, getAt6, setAt6, getAt7, setAt7, getAt8, setAt8, getAt9, setAt9, getAt10, setAt10, getAt11, setAt11, getAt12, setAt12, getAt13, setAt13, getAt14, setAt14, getAt15, setAt15, go_sem, Nat.reduceAdd, Nat.reduceSub, Nat.reduceMul, Nat.reduceLeDiff, Nat.reduceLT, Nat.reduceEqDiff, Int.reduceToNat, Int.reduceAdd, Int.reduceMul, Int.reduceSub, Int.reduceLT, Int.reduceLE, Int.reduceEq, Int.reduceNeg, Int.reduceBEq, Int.reduceBNe, ↓reduceIte, reduceCtorEq, if_pos, if_neg, decide_pos', decide_neg', beq_pos', beq_neg', bne_pos', bne_neg', getE, wrap_of]) | (refine awp_cond_t rfl (by first | with_reducible rfl | (simp only [Bool.and_eq_true, Bool.or_eq_true, Bool.and_eq_false_iff, Bool.or_eq_false_iff, decide_eq_true_eq, decide_eq_false_iff_not, beq_iff_eq, bne_iff_ne, bne_eq_false_iff_eq, beq_eq_false_iff_ne, ne_eq, Bool.not_eq_true', Bool.not_eq_false', not_true_eq_false, not_false_eq_true]; omega)) ?_) | (refine awp_cond_f rfl (by first | with_reducible rfl | (simp only [Bool.and_eq_true, Bool.or_eq_true, Bool.and_eq_false_iff, Bool.or_eq_false_iff, decide_eq_true_eq, decide_eq_false_iff_not, beq_iff_eq, bne_iff_ne, bne_eq_false_iff_eq, beq_eq_false_iff_ne, ne_eq, Bool.not_eq_true', Bool.not_eq_false', not_true_eq_false, not_false_eq_true]; omega)) ?_) | (refine awp_cond rfl (fun hb => ?_) (fun hb => ?_) <;> (try simp only [decide_eq_true_eq, decide_eq_false_iff_not, Bool.not_eq_true', Bool.not_eq_false', Bool.true_eq_false, Bool.false_eq_true, beq_iff_eq, bne_iff_ne, Bool.or_eq_true, Bool.and_eq_true, Bool.or_eq_false_iff, Bool.and_eq_false_iff, bne_eq_false_iff_eq, beq_eq_false_iff_ne, gt_iff_lt, ge_iff_le, Int.reduceEq, Int.reduceNe, Int.reduceLT, Int.reduceLE, ne_eq, not_true_eq_false, not_false_eq_true] at hb)) | ((first | refine awg_split (fun hb => ?_) (fun hb => ?_) | refine awsg_split (fun hb => ?_) (fun hb => ?_)) <;> have hb0 := hb <;> (try simp only [decide_eq_true_eq, decide_eq_false_iff_not, Bool.not_eq_true', Bool.not_eq_false', Bool.true_eq_false, Bool.false_eq_true, beq_iff_eq, bne_iff_ne, Bool.or_eq_true, Bool.and_eq_true, Bool.or_eq_false_iff, Bool.and_eq_false_iff, bne_eq_false_iff_eq, beq_eq_false_iff_ne, gt_iff_lt, ge_iff_le, Int.reduceEq, Int.reduceNe, Int.reduceLT, Int.reduceLE, ne_eq, not_true_eq_false, not_false_eq_true] at hb0) <;> (try simp only [beq_true, beq_false, Bool.not_eq_true', Bool.not_eq_false'] at hb) <;> (simp only [go_sem, Nat.reduceAdd, Nat.reduceSub, Nat.reduceMul, Nat.reduceLeDiff, Nat.reduceLT, Nat.reduceEqDiff, Int.reduceToNat, Int.reduceAdd, Int.reduceMul, Int.reduceSub, Int.reduceLT, Int.reduceLE, Int.reduceEq, Int.reduceNeg, Int.reduceBEq, Int.reduceBNe, ↓reduceIte, reduceCtorEq, hb, hb0] <;> try simp (disch := omega) only [wrap_of])) | (refine And.intro ?_ ?_) | ((show AWE _ _ _ _ _ _ _ _ _; refine awe_intro (ARun.giveK 1 2 (by simp) (g2 _) ?_) ?_); (· simp only [List.map_cons, List.map_nil, AV.low, AV.toPV, AV.toPVs, AV.toPVr, getO0, getOk, getS0, getSk, List.getElem?_cons_zero, List.getElem?_cons_succ, Nat.not_lt_zero, if_false, if_true, List.length_cons, List.length_nil, Nat.zero_le, and_self, and_true, true_and, List.drop_zero, List.take_succ_cons, List.take_zero, List.take_nil, Option.map_some, Nat.zero_add, Nat.add_lt_add_iff_left, Nat.reduceLT, Nat.lt_irrefl, Nat.add_le_add_iff_left, Nat.reduceLeDiff, Nat.le_refl, Nat.le_add_right, Nat.add_zero, Nat.lt_add_right_iff_pos, not_lt_k]; repeat' (first | exact trivial | exact Cv.refl _ | exact Cv.nil (Nat.succ_pos _) | exact PCv.refl _ | exact PCv.nil (Nat.succ_pos _) | refine And.intro ?_ ?_ | refine Cv.agg ?_ | refine Cv.pv (PCv.rs ?_) | refine PCv.rs ?_)); (simp only [go_sem, Nat.reduceAdd, Nat.reduceSub, Nat.reduceMul, Nat.reduceLeDiff, Nat.reduceLT, Nat.reduceEqDiff, Int.reduceToNat, Int.reduceAdd, Int.reduceMul, Int.reduceSub, Int.reduceLT, Int.reduceLE, Int.reduceEq, Int.reduceNeg, Int.reduceBEq, Int.reduceBNe, ↓reduceIte, reduceCtorEq] <;> try simp (disch := omega) only [wrap_of])) | ((show AWSE _ _ _ _ _ _ _ _ _ _ _; refine awse_intro (ARun.giveK 1 2 (by simp) (g2 _) ?_) (fun hrun => ?_)); (· simp only [List.map_cons, List.map_nil, AV.low, AV.toPV, AV.toPVs, AV.toPVr, getO0, getOk, getS0, getSk, List.getElem?_cons_zero, List.getElem?_cons_succ, Nat.not_lt_zero, if_false, if_true, List.length_cons, List.length_nil, Nat.zero_le, and_self, and_true, true_and, List.drop_zero, List.take_succ_cons, List.take_zero, List.take_nil, Option.map_some, Nat.zero_add, Nat.add_lt_add_iff_left, Nat.reduceLT, Nat.lt_irrefl, Nat.add_le_add_iff_left, Nat.reduceLeDiff, Nat.le_refl, Nat.le_add_right, Nat.add_zero, Nat.lt_add_right_iff_pos, not_lt_k]; repeat' (first | exact trivial | exact Cv.refl _ | exact Cv.nil (Nat.succ_pos _) | exact PCv.refl _ | exact PCv.nil (Nat.succ_pos _) | refine And.intro ?_ ?_ | refine Cv.agg ?_ | refine Cv.pv (PCv.rs ?_) | refine PCv.rs ?_)); (simp only [go_sem, Nat.reduceAdd, Nat.reduceSub, Nat.reduceMul, Nat.reduceLeDiff, Nat.reduceLT, Nat.reduceEqDiff, Int.reduceToNat, Int.reduceAdd, Int.reduceMul, Int.reduceSub, Int.reduceLT, Int.reduceLE, Int.reduceEq, Int.reduceNeg, Int.reduceBEq, Int.reduceBNe, ↓reduceIte, reduceCtorEq] <;> try simp (disch := omega) only [wrap_of])) | ((show OGE _ _ _ _ _ _ _; refine oge_intro (ARun.giveK 1 2 (by simp) (g2 _) ?_) ?_); (· simp only [List.map_cons, List.map_nil, AV.low, AV.toPV, AV.toPVs, AV.toPVr, getO0, getOk, getS0, getSk, List.getElem?_cons_zero, List.getElem?_cons_succ, Nat.not_lt_zero, if_false, if_true, List.length_cons, List.length_nil, Nat.zero_le, and_self, and_true, true_and, List.drop_zero, List.take_succ_cons, List.take_zero, List.take_nil, Option.map_some, Nat.zero_add, Nat.add_lt_add_iff_left, Nat.reduceLT, Nat.lt_irrefl, Nat.add_le_add_iff_left, Nat.reduceLeDiff, Nat.le_refl, Nat.le_add_right, Nat.add_zero, Nat.lt_add_right_iff_pos, not_lt_k]; repeat' (first | exact trivial | exact Cv.refl _ | exact Cv.nil (Nat.succ_pos _) | exact PCv.refl _ | exact PCv.nil (Nat.succ_pos _) | refine And.intro ?_ ?_ | refine Cv.agg ?_ | refine Cv.pv (PCv.rs ?_) | refine PCv.rs ?_)); (simp only [go_sem, Nat.reduceAdd, Nat.reduceSub, Nat.reduceMul, Nat.reduceLeDiff, Nat.reduceLT, Nat.reduceEqDiff, Int.reduceToNat, Int.reduceAdd, Int.reduceMul, Int.reduceSub, Int.reduceLT, Int.reduceLE, Int.reduceEq, Int.reduceNeg, Int.reduceBEq, Int.reduceBNe, ↓reduceIte, reduceCtorEq] <;> try simp (disch := omega) only [wrap_of])) | ((show AWE _ _ _ _ _ _ _ _ _; refine awe_intro (ARun.giveK 1 2 (by simp) (g3 _) ?_) ?_); (· simp only [List.map_cons, List.map_nil, AV.low, AV.toPV, AV.toPVs, AV.toPVr, getO0, getOk, getS0, getSk, List.getElem?_cons_zero, List.getElem?_cons_succ, Nat.not_lt_zero, if_false, if_true, List.length_cons, List.length_nil, Nat.zero_le, and_self, and_true, true_and, List.drop_zero, List.take_succ_cons, List.take_zero, List.take_nil, Option.map_some, Nat.zero_add, Nat.add_lt_add_iff_left, Nat.reduceLT, Nat.lt_irrefl, Nat.add_le_add_iff_left, Nat.reduceLeDiff, Nat.le_refl, Nat.le_add_right, Nat.add_zero, Nat.lt_add_right_iff_pos, not_lt_k]; repeat' (first | exact trivial | exact Cv.refl _ | exact Cv.nil (Nat.succ_pos _) | exact PCv.refl _ | exact PCv.nil (Nat.succ_pos _) | refine And.intro ?_ ?_ | refine Cv.agg ?_ | refine Cv.pv (PCv.rs ?_) | refine PCv.rs ?_)); (simp only [go_sem, Nat.reduceAdd, Nat.reduceSub, Nat.reduceMul, Nat.reduceLeDiff, Nat.reduceLT, Nat.reduceEqDiff, Int.reduceToNat, Int.reduceAdd, Int.reduceMul, Int.reduceSub, Int.reduceLT, Int.reduceLE, Int.reduceEq, Int.reduceNeg, Int.reduceBEq, Int.reduceBNe, ↓reduceIte, reduceCtorEq] <;> try simp (disch := omega) only [wrap_of])) | ((show AWSE _ _ _ _ _ _ _ _ _ _ _; refine awse_intro (ARun.giveK 1 2 (by simp) (g3 _) ?_) (fun hrun => ?_)); (· simp only [List.map_cons, List.map_nil, AV.low, AV.toPV, AV.toPVs, AV.toPVr, getO0, getOk, getS0, getSk, List.getElem?_cons_zero, List.getElem?_cons_succ, Nat.not_lt_zero, if_false, if_true, List.length_cons, List.length_nil, Nat.zero_le, and_self, and_true, true_and, List.drop_zero, List.take_succ_cons, List.take_zero, List.take_nil, Option.map_some, Nat.zero_add, Nat.add_lt_add_iff_left, Nat.reduceLT, Nat.lt_irrefl, Nat.add_le_add_iff_left, Nat.reduceLeDiff, Nat.le_refl, Nat.le_add_right, Nat.add_zero, Nat.lt_add_right_iff_pos, not_lt_k]; repeat' (first | exact trivial | exact Cv.refl _ | exact Cv.nil (Nat.succ_pos _) | exact PCv.refl _ | exact PCv.nil (Nat.succ_pos _) | refine And.intro ?_ ?_ | refine Cv.agg ?_ | refine Cv.pv (PCv.rs ?_) | refine PCv.rs ?_)); (simp only [go_sem, Nat.reduceAdd, Nat.reduceSub, Nat.reduceMul, Nat.reduceLeDiff, Nat.reduceLT, Nat.reduceEqDiff, Int.reduceToNat, Int.reduceAdd, Int.reduceMul, Int.reduceSub, Int.reduceLT, Int.reduceLE, Int.reduceEq, Int.reduceNeg, Int.reduceBEq, Int.reduceBNe, ↓reduceIte, reduceCtorEq] <;> try simp (disch := omega) only [wrap_of])) | ((show OGE _ _ _ _ _ _ _; refine oge_intro (ARun.giveK 1 2 (by simp) (g3 _) ?_) ?_); (· simp only [List.map_cons, List.map_nil, AV.low, AV.toPV, AV.toPVs, AV.toPVr, getO0, getOk, getS0, getSk, List.getElem?_cons_zero, List.getElem?_cons_succ, Nat.not_lt_zero, if_false, if_true, List.length_cons, List.length_nil, Nat.zero_le, and_self, and_true, true_and, List.drop_zero, List.take_succ_cons, List.take_zero, List.take_nil, Option.map_some, Nat.zero_add, Nat.add_lt_add_iff_left, Nat.reduceLT, Nat.lt_irrefl, Nat.add_le_add_iff_left, Nat.reduceLeDiff, Nat.le_refl, Nat.le_add_right, Nat.add_zero, Nat.lt_add_right_iff_pos, not_lt_k]; repeat' (first | exact trivial | exact Cv.refl _ | exact Cv.nil (Nat.succ_pos _) | exact PCv.refl _ | exact PCv.nil (Nat.succ_pos _) | refine And.intro ?_ ?_ | refine Cv.agg ?_ | refine Cv.pv (PCv.rs ?_) | refine PCv.rs ?_)); (simp only [go_sem, Nat.reduceAdd, Nat.reduceSub, Nat.reduceMul, Nat.reduceLeDiff, Nat.reduceLT, Nat.reduceEqDiff, Int.reduceToNat, Int.reduceAdd, Int.reduceMul, Int.reduceSub, Int.reduceLT, Int.reduceLE, Int.reduceEq, Int.reduceNeg, Int.reduceBEq, Int.reduceBNe, ↓reduceIte, reduceCtorEq] <;> try simp (disch := omega) only [wrap_of])) | ((show AWE _ _ _ _ _ _ _ _ _; refine awe_intro (ARun.lendA (g4 [])) ?_); (simp only [go_sem, Nat.reduceAdd, Nat.reduceSub, Nat.reduceMul, Nat.reduceLeDiff, Nat.reduceLT, Nat.reduceEqDiff, Int.reduceToNat, Int.reduceAdd, Int.reduceMul, Int.reduceSub, Int.reduceLT, Int.reduceLE, Int.reduceEq, Int.reduceNeg, Int.reduceBEq, Int.reduceBNe, ↓reduceIte, reduceCtorEq] <;> try simp (disch := omega) only [wrap_of])) | ((show AWSF _ _ _ _ _ _ _ _ _ _ _; refine awsf_intro (ARun.lendA (g4 [])) (fun hrun => ?_)); (simp only [go_sem, Nat.reduceAdd, Nat.reduceSub, Nat.reduceMul, Nat.reduceLeDiff, Nat.reduceLT, Nat.reduceEqDiff, Int.reduceToNat, Int.reduceAdd, Int.reduceMul, Int.reduceSub, Int.reduceLT, Int.reduceLE, Int.reduceEq, Int.reduceNeg, Int.reduceBEq, Int.reduceBNe, ↓reduceIte, reduceCtorEq] <;> try simp (disch := omega) only [wrap_of])) | ((show OGE _ _ _ _ _ _ _; refine oge_intro (ARun.lendA (g4 [])) ?_); (simp only [go_sem, Nat.reduceAdd, Nat.reduceSub, Nat.reduceMul, Nat.reduceLeDiff, Nat.reduceLT, Nat.reduceEqDiff, Int.reduceToNat, Int.reduceAdd, Int.reduceMul, Int.reduceSub, Int.reduceLT, Int.reduceLE, Int.reduceEq, Int.reduceNeg, Int.reduceBEq, Int.reduceBNe, ↓reduceIte, reduceCtorEq] <;> try simp (disch := omega) only [wrap_of])) | ((show AWSE _ _ _ _ _ _ _ _ _ _ _; refine awse_intro (ARun.lendA (g4 [])) (fun hrun => ?_)); (simp only [go_sem, Nat.reduceAdd, Nat.reduceSub, Nat.reduceMul, Nat.reduceLeDiff, Nat.reduceLT, Nat.reduceEqDiff, Int.reduceToNat, Int.reduceAdd, Int.reduceMul, Int.reduceSub, Int.reduceLT, Int.reduceLE, Int.reduceEq, Int.reduceNeg, Int.reduceBEq, Int.reduceBNe, ↓reduceIte, reduceCtorEq] <;> try simp (disch := omega) only [wrap_of])) | refine awp_skip ?_ | refine awp_ret ?_ | refine awp_exit ?_ | refine awp_label ?_ | refine awloop_step ?_ | fail)
  all_goals clear g0 g1 g2 g3 g4
  all_goals ((refine resX ?_; try exact True.intro); simp_all [isS])
end Go.Proofs.YtimmncjdknlegaaDoor.Y

set_option maxHeartbeats 8000000
set_option maxRecDepth 100000
set_option linter.unusedVariables false
set_option linter.unusedSimpArgs false
set_option linter.unusedSectionVars false
namespace Go.Proofs.YtimmncjdknlegaaDoor.Y
open Go.Proofs.YtimmncjdknlegaaDoor.AL Go.Proofs Go
attribute [local irreducible] AWP AWL AWG AWR AWE AWX AWO AWSeq AWSG AWSR AWSO AWSE AWSF GoodP OGW OGR OGE OGX PGW PGR PGE Wk AWLoop AWPD AWLD

theorem halv_fine (b : Int) : CodFine (halv b) := ⟨by simp [halv], by simp [halv], by simp [halv], by simp [halv], by simp [halv]⟩
theorem v1 : isS (halv 2) 1 3 0 4 = true := by decide +kernel
theorem v2 : isS (halv 2) 0 7 0 0 = true := by decide +kernel
theorem v3 : isS (halv 0) 1 0 14 3 = true := by decide +kernel
theorem v4 : isS (halv 9) 1 0 15 4 = true := by decide +kernel
theorem v5 : runE (refRunS [vW] (halv 2) [0] ⟨1, 1, 1, 1, 0⟩) = 1 := by decide +kernel
theorem v6 : stepsE [vW] (halv 2) [7] ⟨5, 1, 1, 1, 0⟩ = 1 := by decide +kernel
def badC : Cod := ⟨[⟨4, 0, 0⟩], [], [], [], []⟩
theorem bad_fine : CodFine badC := ⟨by simp [badC], by simp [badC], by simp [badC], by simp [badC], by simp [badC]⟩
theorem v7 : runE (refRunS [vW] badC [7] ⟨1, 1, 1, 1, 0⟩) = 1 := by decide +kernel
theorem head_run (H0 : List AObj) : ARun Tryd.prog 7 [] H0 (.ret (.b true) H0) := by
  have h0 := fun b H0 => halving_run b H0
  have g1 := fun H0 => is_run (halv 2) (halv_fine 2) 1 3 0 4 H0
  have g2 := fun H0 => is_run (halv 2) (halv_fine 2) 0 7 0 0 H0
  have g3 := fun H0 => is_run (halv 0) (halv_fine 0) 1 0 14 3 H0
  have g4 := fun H0 => is_run (halv 9) (halv_fine 9) 1 0 15 4 H0
  rw [v1] at g1
  rw [v2] at g2
  rw [v3] at g3
  rw [v4] at g4
  have k0 := fun H0 => vars_run H0
  have k1 := fun e H0 => call_run e H0
  have r1 := fun H0 => MRun_run [vW] (halv 2) [0] ⟨1, 1, 1, 1, 0⟩ (by simp) (by simp) (halv_fine 2) H0
  have r2 := fun H0 => MSteps_run [vW] (halv 2) [7] ⟨5, 1, 1, 1, 0⟩ (by simp) (by simp) (halv_fine 2) H0
  have r3 := fun H0 => MRun_run [vW] badC [7] ⟨1, 1, 1, 1, 0⟩ (by simp) (by simp) bad_fine H0
  rw [v5] at r1
  rw [v6] at r2
  rw [v7] at r3
  (refine ARun.intro Tryd.func7 rfl Tryd.call7 Tryd.ntmps7 Tryd.results7 ?_; simp only [List.length_cons, List.length_nil, List.length_map, Nat.reduceAdd, Nat.reduceSub, List.replicate_succ, List.replicate_zero, List.cons_append, List.nil_append])
  repeat' (first | refine awp_seq ?_ | refine awp_block ?_ | refine awp_scope ?_ | ((first | refine awp_region_k fun Kn Kp hn hp => ?_ | show AWP _ _ (Code.region 6 _ true) _ _ _; refine awp_drawn_k (id := 6) [2, 4] [] [.win [0, 1], .win [0, 1], .eff 0, .win [0, 1], .eff 1, .win [2], .win [2], .win [2], .win [2], .win [2]] 2 rfl (by as_aux_lemma => kernel_rfl) fun Kn Kp hn hp => ?_ | refine oge_intro (by assumption) ?_ | (show AWE _ _ _ _ _ _ _ _ _; first | refine awe_intro (h0 _ _) ?_ | refine awe_intro (g1 _) ?_ | refine awe_intro (g2 _) ?_ | refine awe_intro (g3 _) ?_ | refine awe_intro (g4 _) ?_ | refine awe_intro (k0 _) ?_ | refine awe_intro (k1 _ _) ?_) | (show AWSF _ _ _ _ _ _ _ _ _ _ _; first | refine awsf_intro (h0 _ _) (fun hrun => ?_) | refine awsf_intro (g1 _) (fun hrun => ?_) | refine awsf_intro (g2 _) (fun hrun => ?_) | refine awsf_intro (g3 _) (fun hrun => ?_) | refine awsf_intro (g4 _) (fun hrun => ?_) | refine awsf_intro (k0 _) (fun hrun => ?_) | refine awsf_intro (k1 _ _) (fun hrun => ?_)) | (show OGE _ _ _ _ _ _ _; first | refine oge_intro (h0 _ _) ?_ | refine oge_intro (g1 _) ?_ | refine oge_intro (g2 _) ?_ | refine oge_intro (g3 _) ?_ | refine oge_intro (g4 _) ?_ | refine oge_intro (k0 _) ?_ | refine oge_intro (k1 _ _) ?_) | (show AWSE _ _ _ _ _ _ _ _ _ _ _; first | refine awse_intro (h0 _ _) (fun hrun => ?_) | refine awse_intro (g1 _) (fun hrun => ?_) | refine awse_intro (g2 _) (fun hrun => ?_) | refine awse_intro (g3 _) (fun hrun => ?_) | refine awse_intro (g4 _) (fun hrun => ?_) | refine awse_intro (k0 _) (fun hrun => ?_) | refine awse_intro (k1 _ _) (fun hrun => ?_)) | (show PGE _ _ _ _ _; first | refine pge_intro (h0 _ _) (fun tm' => ?_) | refine pge_intro (g1 _) (fun tm' => ?_) | refine pge_intro (g2 _) (fun tm' => ?_) | refine pge_intro (g3 _) (fun tm' => ?_) | refine pge_intro (g4 _) (fun tm' => ?_) | refine pge_intro (k0 _) (fun tm' => ?_) | refine pge_intro (k1 _ _) (fun tm' => ?_))) <;> (simp only [go_sem, Nat.reduceAdd, Nat.reduceSub, Nat.reduceMul, Nat.reduceLeDiff, Nat.reduceLT, Nat.reduceEqDiff, Int.reduceToNat, Int.reduceAdd, Int.reduceMul, Int.reduceSub, Int.reduceLT, Int.reduceLE, Int.reduceEq, Int.reduceNeg, Int.reduceBEq, Int.reduceBNe, ↓reduceIte, reduceCtorEq] <;> try simp (disch := omega) only [wrap_of])) | (refine hn _ _ ?_; clear hn hp Kn Kp) | (refine hp _ _ _ ?_; clear hn hp Kn Kp) | (simp (disch := omega) only [getSkip16, setSkip16, getAt1, setAt1, getAt2, setAt2, getAt3, setAt3, getAt4, setAt4, getAt5, setAt5, getAt6, setAt6, getAt7, setAt7, getAt8, setAt8, getAt9, setAt9, getAt10, setAt10, getAt11, setAt11, getAt12, setAt12, getAt13, setAt13, getAt14, setAt14, getAt15, setAt15, go_sem, Nat.reduceAdd, Nat.reduceSub, Nat.reduceMul, Nat.reduceLeDiff, Nat.reduceLT, Nat.reduceEqDiff, Int.reduceToNat, Int.reduceAdd, Int.reduceMul, Int.reduceSub, Int.reduceLT, Int.reduceLE, Int.reduceEq, Int.reduceNeg, Int.reduceBEq, Int.reduceBNe, ↓reduceIte, reduceCtorEq, if_pos, if_neg, decide_pos', decide_neg', beq_pos', beq_neg', bne_pos', bne_neg', getE, wrap_of]) | (refine awp_cond_t rfl (by first | with_reducible rfl | (simp only [Bool.and_eq_true, Bool.or_eq_true, Bool.and_eq_false_iff, Bool.or_eq_false_iff, decide_eq_true_eq, decide_eq_false_iff_not, beq_iff_eq, bne_iff_ne, bne_eq_false_iff_eq, beq_eq_false_iff_ne, ne_eq, Bool.not_eq_true', Bool.not_eq_false', not_true_eq_false, not_false_eq_true]; omega)) ?_) | (refine awp_cond_f rfl (by first | with_reducible rfl | (simp only [Bool.and_eq_true, Bool.or_eq_true, Bool.and_eq_false_iff, Bool.or_eq_false_iff, decide_eq_true_eq, decide_eq_false_iff_not, beq_iff_eq, bne_iff_ne, bne_eq_false_iff_eq, beq_eq_false_iff_ne, ne_eq, Bool.not_eq_true', Bool.not_eq_false', not_true_eq_false, not_false_eq_true]; omega)) ?_) | (refine awp_cond rfl (fun hb => ?_) (fun hb => ?_) <;> (try simp only [decide_eq_true_eq, decide_eq_false_iff_not, Bool.not_eq_true', Bool.not_eq_false', Bool.true_eq_false, Bool.false_eq_true, beq_iff_eq, bne_iff_ne, Bool.or_eq_true, Bool.and_eq_true, Bool.or_eq_false_iff, Bool.and_eq_false_iff, bne_eq_false_iff_eq, beq_eq_false_iff_ne, gt_iff_lt, ge_iff_le, Int.reduceEq, Int.reduceNe, Int.reduceLT, Int.reduceLE, ne_eq, not_true_eq_false, not_false_eq_true] at hb)) | ((first | refine awg_split (fun hb => ?_) (fun hb => ?_) | refine awsg_split (fun hb => ?_) (fun hb => ?_)) <;> have hb0 := hb <;> (try simp only [decide_eq_true_eq, decide_eq_false_iff_not, Bool.not_eq_true', Bool.not_eq_false', Bool.true_eq_false, Bool.false_eq_true, beq_iff_eq, bne_iff_ne, Bool.or_eq_true, Bool.and_eq_true, Bool.or_eq_false_iff, Bool.and_eq_false_iff, bne_eq_false_iff_eq, beq_eq_false_iff_ne, gt_iff_lt, ge_iff_le, Int.reduceEq, Int.reduceNe, Int.reduceLT, Int.reduceLE, ne_eq, not_true_eq_false, not_false_eq_true] at hb0) <;> (try simp only [beq_true, beq_false, Bool.not_eq_true', Bool.not_eq_false'] at hb) <;> (simp only [go_sem, Nat.reduceAdd, Nat.reduceSub, Nat.reduceMul, Nat.reduceLeDiff, Nat.reduceLT, Nat.reduceEqDiff, Int.reduceToNat, Int.reduceAdd, Int.reduceMul, Int.reduceSub, Int.reduceLT, Int.reduceLE, Int.reduceEq, Int.reduceNeg, Int.reduceBEq, Int.reduceBNe, ↓reduceIte, reduceCtorEq, hb, hb0] <;> try simp (disch := omega) only [wrap_of])) | (refine And.intro ?_ ?_) | ((show AWE _ _ _ _ _ _ _ _ _; refine awe_intro (ARun.giveK 0 2 (by simp) (r1 _) ?_) ?_); (· simp only [List.map_cons, List.map_nil, AV.low, AV.toPV, AV.toPVs, AV.toPVr, getO0, getOk, getS0, getSk, List.getElem?_cons_zero, List.getElem?_cons_succ, Nat.not_lt_zero, if_false, if_true, List.length_cons, List.length_nil, Nat.zero_le, and_self, and_true, true_and, List.drop_zero, List.take_succ_cons, List.take_zero, List.take_nil, Option.map_some, Nat.zero_add, Nat.add_lt_add_iff_left, Nat.reduceLT, Nat.lt_irrefl, Nat.add_le_add_iff_left, Nat.reduceLeDiff, Nat.le_refl, Nat.le_add_right, Nat.add_zero, Nat.lt_add_right_iff_pos, not_lt_k]; repeat' (first | exact trivial | exact Cv.refl _ | exact Cv.nil (Nat.succ_pos _) | exact PCv.refl _ | exact PCv.nil (Nat.succ_pos _) | refine And.intro ?_ ?_ | refine Cv.agg ?_ | refine Cv.pv (PCv.rs ?_) | refine PCv.rs ?_)); (simp only [go_sem, Nat.reduceAdd, Nat.reduceSub, Nat.reduceMul, Nat.reduceLeDiff, Nat.reduceLT, Nat.reduceEqDiff, Int.reduceToNat, Int.reduceAdd, Int.reduceMul, Int.reduceSub, Int.reduceLT, Int.reduceLE, Int.reduceEq, Int.reduceNeg, Int.reduceBEq, Int.reduceBNe, ↓reduceIte, reduceCtorEq] <;> try simp (disch := omega) only [wrap_of])) | ((show AWSE _ _ _ _ _ _ _ _ _ _ _; refine awse_intro (ARun.giveK 0 2 (by simp) (r1 _) ?_) (fun hrun => ?_)); (· simp only [List.map_cons, List.map_nil, AV.low, AV.toPV, AV.toPVs, AV.toPVr, getO0, getOk, getS0, getSk, List.getElem?_cons_zero, List.getElem?_cons_succ, Nat.not_lt_zero, if_false, if_true, List.length_cons, List.length_nil, Nat.zero_le, and_self, and_true, true_and, List.drop_zero, List.take_succ_cons, List.take_zero, List.take_nil, Option.map_some, Nat.zero_add, Nat.add_lt_add_iff_left, Nat.reduceLT, Nat.lt_irrefl, Nat.add_le_add_iff_left, Nat.reduceLeDiff, Nat.le_refl, Nat.le_add_right, Nat.add_zero, Nat.lt_add_right_iff_pos, not_lt_k]; repeat' (first | exact trivial | exact Cv.refl _ | exact Cv.nil (Nat.succ_pos _) | exact PCv.refl _ | exact PCv.nil (Nat.succ_pos _) | refine And.intro ?_ ?_ | refine Cv.agg ?_ | refine Cv.pv (PCv.rs ?_) | refine PCv.rs ?_)); (simp only [go_sem, Nat.reduceAdd, Nat.reduceSub, Nat.reduceMul, Nat.reduceLeDiff, Nat.reduceLT, Nat.reduceEqDiff, Int.reduceToNat, Int.reduceAdd, Int.reduceMul, Int.reduceSub, Int.reduceLT, Int.reduceLE, Int.reduceEq, Int.reduceNeg, Int.reduceBEq, Int.reduceBNe, ↓reduceIte, reduceCtorEq] <;> try simp (disch := omega) only [wrap_of])) | ((show OGE _ _ _ _ _ _ _; refine oge_intro (ARun.giveK 0 2 (by simp) (r1 _) ?_) ?_); (· simp only [List.map_cons, List.map_nil, AV.low, AV.toPV, AV.toPVs, AV.toPVr, getO0, getOk, getS0, getSk, List.getElem?_cons_zero, List.getElem?_cons_succ, Nat.not_lt_zero, if_false, if_true, List.length_cons, List.length_nil, Nat.zero_le, and_self, and_true, true_and, List.drop_zero, List.take_succ_cons, List.take_zero, List.take_nil, Option.map_some, Nat.zero_add, Nat.add_lt_add_iff_left, Nat.reduceLT, Nat.lt_irrefl, Nat.add_le_add_iff_left, Nat.reduceLeDiff, Nat.le_refl, Nat.le_add_right, Nat.add_zero, Nat.lt_add_right_iff_pos, not_lt_k]; repeat' (first | exact trivial | exact Cv.refl _ | exact Cv.nil (Nat.succ_pos _) | exact PCv.refl _ | exact PCv.nil (Nat.succ_pos _) | refine And.intro ?_ ?_ | refine Cv.agg ?_ | refine Cv.pv (PCv.rs ?_) | refine PCv.rs ?_)); (simp only [go_sem, Nat.reduceAdd, Nat.reduceSub, Nat.reduceMul, Nat.reduceLeDiff, Nat.reduceLT, Nat.reduceEqDiff, Int.reduceToNat, Int.reduceAdd, Int.reduceMul, Int.reduceSub, Int.reduceLT, Int.reduceLE, Int.reduceEq, Int.reduceNeg, Int.reduceBEq, Int.reduceBNe, ↓reduceIte, reduceCtorEq] <;> try simp (disch := omega) only [wrap_of])) | ((show AWE _ _ _ _ _ _ _ _ _; refine awe_intro (ARun.giveK 0 2 (by simp) (r2 _) ?_) ?_); (· simp only [List.map_cons, List.map_nil, AV.low, AV.toPV, AV.toPVs, AV.toPVr, getO0, getOk, getS0, getSk, List.getElem?_cons_zero, List.getElem?_cons_succ, Nat.not_lt_zero, if_false, if_true, List.length_cons, List.length_nil, Nat.zero_le, and_self, and_true, true_and, List.drop_zero, List.take_succ_cons, List.take_zero, List.take_nil, Option.map_some, Nat.zero_add, Nat.add_lt_add_iff_left, Nat.reduceLT, Nat.lt_irrefl, Nat.add_le_add_iff_left, Nat.reduceLeDiff, Nat.le_refl, Nat.le_add_right, Nat.add_zero, Nat.lt_add_right_iff_pos, not_lt_k]; repeat' (first | exact trivial | exact Cv.refl _ | exact Cv.nil (Nat.succ_pos _) | exact PCv.refl _ | exact PCv.nil (Nat.succ_pos _) | refine And.intro ?_ ?_ | refine Cv.agg ?_ | refine Cv.pv (PCv.rs ?_) | refine PCv.rs ?_)); (simp only [go_sem, Nat.reduceAdd, Nat.reduceSub, Nat.reduceMul, Nat.reduceLeDiff, Nat.reduceLT, Nat.reduceEqDiff, Int.reduceToNat, Int.reduceAdd, Int.reduceMul, Int.reduceSub, Int.reduceLT, Int.reduceLE, Int.reduceEq, Int.reduceNeg, Int.reduceBEq, Int.reduceBNe, ↓reduceIte, reduceCtorEq] <;> try simp (disch := omega) only [wrap_of])) | ((show AWSE _ _ _ _ _ _ _ _ _ _ _; refine awse_intro (ARun.giveK 0 2 (by simp) (r2 _) ?_) (fun hrun => ?_)); (· simp only [List.map_cons, List.map_nil, AV.low, AV.toPV, AV.toPVs, AV.toPVr, getO0, getOk, getS0, getSk, List.getElem?_cons_zero, List.getElem?_cons_succ, Nat.not_lt_zero, if_false, if_true, List.length_cons, List.length_nil, Nat.zero_le, and_self, and_true, true_and, List.drop_zero, List.take_succ_cons, List.take_zero, List.take_nil, Option.map_some, Nat.zero_add, Nat.add_lt_add_iff_left, Nat.reduceLT, Nat.lt_irrefl, Nat.add_le_add_iff_left, Nat.reduceLeDiff, Nat.le_refl, Nat.le_add_right, Nat.add_zero, Nat.lt_add_right_iff_pos, not_lt_k]; repeat' (first | exact trivial | exact Cv.refl _ | exact Cv.nil (Nat.succ_pos _) | exact PCv.refl _ | exact PCv.nil (Nat.succ_pos _) | refine And.intro ?_ ?_ | refine Cv.agg ?_ | refine Cv.pv (PCv.rs ?_) | refine PCv.rs ?_)); (simp only [go_sem, Nat.reduceAdd, Nat.reduceSub, Nat.reduceMul, Nat.reduceLeDiff, Nat.reduceLT, Nat.reduceEqDiff, Int.reduceToNat, Int.reduceAdd, Int.reduceMul, Int.reduceSub, Int.reduceLT, Int.reduceLE, Int.reduceEq, Int.reduceNeg, Int.reduceBEq, Int.reduceBNe, ↓reduceIte, reduceCtorEq] <;> try simp (disch := omega) only [wrap_of])) | ((show OGE _ _ _ _ _ _ _; refine oge_intro (ARun.giveK 0 2 (by simp) (r2 _) ?_) ?_); (· simp only [List.map_cons, List.map_nil, AV.low, AV.toPV, AV.toPVs, AV.toPVr, getO0, getOk, getS0, getSk, List.getElem?_cons_zero, List.getElem?_cons_succ, Nat.not_lt_zero, if_false, if_true, List.length_cons, List.length_nil, Nat.zero_le, and_self, and_true, true_and, List.drop_zero, List.take_succ_cons, List.take_zero, List.take_nil, Option.map_some, Nat.zero_add, Nat.add_lt_add_iff_left, Nat.reduceLT, Nat.lt_irrefl, Nat.add_le_add_iff_left, Nat.reduceLeDiff, Nat.le_refl, Nat.le_add_right, Nat.add_zero, Nat.lt_add_right_iff_pos, not_lt_k]; repeat' (first | exact trivial | exact Cv.refl _ | exact Cv.nil (Nat.succ_pos _) | exact PCv.refl _ | exact PCv.nil (Nat.succ_pos _) | refine And.intro ?_ ?_ | refine Cv.agg ?_ | refine Cv.pv (PCv.rs ?_) | refine PCv.rs ?_)); (simp only [go_sem, Nat.reduceAdd, Nat.reduceSub, Nat.reduceMul, Nat.reduceLeDiff, Nat.reduceLT, Nat.reduceEqDiff, Int.reduceToNat, Int.reduceAdd, Int.reduceMul, Int.reduceSub, Int.reduceLT, Int.reduceLE, Int.reduceEq, Int.reduceNeg, Int.reduceBEq, Int.reduceBNe, ↓reduceIte, reduceCtorEq] <;> try simp (disch := omega) only [wrap_of])) | ((show AWE _ _ _ _ _ _ _ _ _; refine awe_intro (ARun.giveK 0 2 (by simp) (r3 _) ?_) ?_); (· simp only [List.map_cons, List.map_nil, AV.low, AV.toPV, AV.toPVs, AV.toPVr, getO0, getOk, getS0, getSk, List.getElem?_cons_zero, List.getElem?_cons_succ, Nat.not_lt_zero, if_false, if_true, List.length_cons, List.length_nil, Nat.zero_le, and_self, and_true, true_and, List.drop_zero, List.take_succ_cons, List.take_zero, List.take_nil, Option.map_some, Nat.zero_add, Nat.add_lt_add_iff_left, Nat.reduceLT, Nat.lt_irrefl, Nat.add_le_add_iff_left, Nat.reduceLeDiff, Nat.le_refl, Nat.le_add_right, Nat.add_zero, Nat.lt_add_right_iff_pos, not_lt_k]; repeat' (first | exact trivial | exact Cv.refl _ | exact Cv.nil (Nat.succ_pos _) | exact PCv.refl _ | exact PCv.nil (Nat.succ_pos _) | refine And.intro ?_ ?_ | refine Cv.agg ?_ | refine Cv.pv (PCv.rs ?_) | refine PCv.rs ?_)); (simp only [go_sem, Nat.reduceAdd, Nat.reduceSub, Nat.reduceMul, Nat.reduceLeDiff, Nat.reduceLT, Nat.reduceEqDiff, Int.reduceToNat, Int.reduceAdd, Int.reduceMul, Int.reduceSub, Int.reduceLT, Int.reduceLE, Int.reduceEq, Int.reduceNeg, Int.reduceBEq, Int.reduceBNe, ↓reduceIte, reduceCtorEq] <;> try simp (disch := omega) only [wrap_of])) | ((show AWSE _ _ _ _ _ _ _ _ _ _ _; refine awse_intro (ARun.giveK 0 2 (by simp) (r3 _) ?_) (fun hrun => ?_)); (· simp only [List.map_cons, List.map_nil, AV.low, AV.toPV, AV.toPVs, AV.toPVr, getO0, getOk, getS0, getSk, List.getElem?_cons_zero, List.getElem?_cons_succ, Nat.not_lt_zero, if_false, if_true, List.length_cons, List.length_nil, Nat.zero_le, and_self, and_true, true_and, List.drop_zero, List.take_succ_cons, List.take_zero, List.take_nil, Option.map_some, Nat.zero_add, Nat.add_lt_add_iff_left, Nat.reduceLT, Nat.lt_irrefl, Nat.add_le_add_iff_left, Nat.reduceLeDiff, Nat.le_refl, Nat.le_add_right, Nat.add_zero, Nat.lt_add_right_iff_pos, not_lt_k]; repeat' (first | exact trivial | exact Cv.refl _ | exact Cv.nil (Nat.succ_pos _) | exact PCv.refl _ | exact PCv.nil (Nat.succ_pos _) | refine And.intro ?_ ?_ | refine Cv.agg ?_ | refine Cv.pv (PCv.rs ?_) | refine PCv.rs ?_)); (simp only [go_sem, Nat.reduceAdd, Nat.reduceSub, Nat.reduceMul, Nat.reduceLeDiff, Nat.reduceLT, Nat.reduceEqDiff, Int.reduceToNat, Int.reduceAdd, Int.reduceMul, Int.reduceSub, Int.reduceLT, Int.reduceLE, Int.reduceEq, Int.reduceNeg, Int.reduceBEq, Int.reduceBNe, ↓reduceIte, reduceCtorEq] <;> try simp (disch := omega) only [wrap_of])) | ((show OGE _ _ _ _ _ _ _; refine oge_intro (ARun.giveK 0 2 (by simp) (r3 _) ?_) ?_); (· simp only [List.map_cons, List.map_nil, AV.low, AV.toPV, AV.toPVs, AV.toPVr, getO0, getOk, getS0, getSk, List.getElem?_cons_zero, List.getElem?_cons_succ, Nat.not_lt_zero, if_false, if_true, List.length_cons, List.length_nil, Nat.zero_le, and_self, and_true, true_and, List.drop_zero, List.take_succ_cons, List.take_zero, List.take_nil, Option.map_some, Nat.zero_add, Nat.add_lt_add_iff_left, Nat.reduceLT, Nat.lt_irrefl, Nat.add_le_add_iff_left, Nat.reduceLeDiff, Nat.le_refl, Nat.le_add_right, Nat.add_zero, Nat.lt_add_right_iff_pos, not_lt_k]; repeat' (first | exact trivial | exact Cv.refl _ | exact Cv.nil (Nat.succ_pos _) | exact PCv.refl _ | exact PCv.nil (Nat.succ_pos _) | refine And.intro ?_ ?_ | refine Cv.agg ?_ | refine Cv.pv (PCv.rs ?_) | refine PCv.rs ?_)); (simp only [go_sem, Nat.reduceAdd, Nat.reduceSub, Nat.reduceMul, Nat.reduceLeDiff, Nat.reduceLT, Nat.reduceEqDiff, Int.reduceToNat, Int.reduceAdd, Int.reduceMul, Int.reduceSub, Int.reduceLT, Int.reduceLE, Int.reduceEq, Int.reduceNeg, Int.reduceBEq, Int.reduceBNe, ↓reduceIte, reduceCtorEq] <;> try simp (disch := omega) only [wrap_of])) | refine awp_skip ?_ | refine awp_ret ?_ | refine awp_exit ?_ | refine awp_label ?_ | refine awloop_step ?_ | fail)
  all_goals ((refine resX ?_; try exact True.intro))
end Go.Proofs.YtimmncjdknlegaaDoor.Y

set_option maxHeartbeats 8000000
set_option maxRecDepth 20000
set_option linter.unusedVariables false
set_option linter.unusedSimpArgs false
set_option linter.unusedSectionVars false
namespace Go.Proofs.YtimmncjdknlegaaDoor.Y
open Go.Proofs.YtimmncjdknlegaaDoor.AL Go.Proofs Go
attribute [local irreducible] AWP AWL AWG AWR AWE AWX AWO AWSeq AWSG AWSR AWSO AWSE AWSF GoodP OGW OGR OGE OGX PGW PGR PGE Wk AWLoop AWPD AWLD
theorem dr15_5_X11d : Drawn Tryd.prog 5 (regOps 5 ((Tryd.f15.body).getD .skip)) [] [] [.win [0], .win [0], .win [0], .win [0], .win [0], .win [0], .win [0], .win [0], .win [0], .win [0], .win [0], .win [0], .win [0], .win [0], .win [0], .win [0], .win [0], .win [0], .win [0], .win [0], .win [0], .win [0], .win [0], .win [0], .win [0], .win [0]] 0 [] := ⟨rfl, by as_aux_lemma => kernel_rfl⟩

theorem RState_run (vs : List Vr) (st : List Int) (h1 : vs.length ≤ 2000000) (h2 : st.length ≤ 2000000) (H0 : List AObj) :
    ARun Tryd.prog 15 [.rs 5 (vs.map encV), .rs 1 (rI st)] H0 (.ret (.b (stOk vs st)) H0) := by
  (refine ARun.intro Tryd.func15 rfl Tryd.call15 Tryd.ntmps15 Tryd.results15 ?_; simp only [List.length_cons, List.length_nil, List.length_map, Nat.reduceAdd, Nat.reduceSub, List.replicate_succ, List.replicate_zero, List.cons_append, List.nil_append])
  (have rr1 := dr15_5_X11d; refine wkO ?_; clear rr1; (repeat' first | exact True.intro | refine Lf.mk ?_ ?_); all_goals intro hP)
  refine awp_loop_ind (σ := Nat) (fun k => vs.length - k) (fun k => k ≤ vs.length ∧ k ≤ st.length ∧ stOk vs st = stOk (vs.drop k) (st.drop k))
    (fun k => (.rs 5 (vs.map encV) :: .rs 1 (rI st) :: .any :: .any :: .any :: .i k :: .any :: .any :: .any :: .any :: .any :: .any :: .any :: .any :: .any :: .any :: .any :: .any :: .any :: .any :: .any :: .any :: .any :: .any :: .any :: .any :: .any :: .any :: .any :: .any :: .any :: .any :: .any :: .any :: .any :: .any :: .any :: .any :: .any :: .any :: .any :: .any :: .any :: .any :: .any :: .any :: .any :: .any :: .any :: .any :: .any :: .any :: .any :: .any :: .any :: [])) (fun k => H0) 0 ⟨Nat.zero_le _, Nat.zero_le _, by simp⟩ (by (refine fgtX ?_; try exact True.intro)) ?_
  rintro k ⟨k1, k2, k3⟩
  have hw : IntKind.i64.wrap ((k : Int) + 1) = ((k + 1 : Nat) : Int) := by rw [wrap_of (by omega) (by omega)]; omega
  cases hv : vs.drop k with
  | nil =>
    have hkv : vs.length ≤ k := List.drop_eq_nil_iff.1 hv
    rw [hv] at k3
    (have rr1 := dr15_5_X11d; refine wkO ?_; clear rr1; (repeat' first | exact True.intro | refine Lf.mk ?_ ?_); all_goals intro hP)
    (refine resX ?_; try exact True.intro)
    rw [k3]
    cases hs : st.drop k with
    | nil => have := List.drop_eq_nil_iff.1 hs; have e : st.length = vs.length := by omega
             simp [stOk, e]
    | cons n ns => have := congrArg List.length hs; simp at this; have e : ¬ st.length = vs.length := by omega
                   have e' : ¬ (st.length : Int) = vs.length := by omega
                   simp [stOk, e']
  | cons v vr =>
    have hkv : k < vs.length := by have := congrArg List.length hv; simp at this; omega
    rw [hv] at k3
    cases hs : st.drop k with
    | nil =>
      have hks : st.length ≤ k := List.drop_eq_nil_iff.1 hs
      rw [hs] at k3
      (have rr1 := dr15_5_X11d; refine wkO ?_; clear rr1; (repeat' first | exact True.intro | refine Lf.mk ?_ ?_); all_goals intro hP)
      (refine resX ?_; try exact True.intro)
      rw [k3]
      have e' : ¬ (st.length : Int) = vs.length := by omega
      simp [stOk, e']
    | cons n nr =>
      have hks : k < st.length := by have := congrArg List.length hs; simp at this; omega
      rw [hs] at k3
      obtain ⟨hvk, _, hvd, _⟩ := drop_cons hv
      obtain ⟨hsk, _, hsd, _⟩ := drop_cons hs
      have hv' : (vs.map encV)[k]? = some (cV v) := by rw [List.getElem?_map, hvk]; rfl
      have hs' : (rI st)[k]? = some [.i n] := by rw [List.getElem?_map, hsk]; rfl
      have hval := fun H0 => RValue_run n H0
      (have rr1 := dr15_5_X11d; have ww1 := hv'; have ww2 := hs'; have ww3 := hw; have ww4 := hvk; have ww5 := hsk; have cc1 := fun z1 => hval z1; refine wkO ?_; clear rr1 ww1 ww2 ww3 ww4 ww5 cc1; (repeat' first | exact True.intro | refine Lf.mk ?_ ?_); all_goals intro hP)
      all_goals first
        | ((refine resX ?_; try exact True.intro); rw [k3]; simp only [stOk]; rw [decide_neg' (by omega), Bool.false_and])
        | (refine ⟨k + 1, by omega, ⟨by omega, by omega, by rw [k3, hvd, hsd]; simp only [stOk]; rw [decide_pos' (by omega), Bool.true_and]⟩, ?_⟩; (refine fgtX ?_; try exact True.intro))
end Go.Proofs.YtimmncjdknlegaaDoor.Y

set_option maxHeartbeats 8000000
set_option maxRecDepth 100000
set_option linter.unusedVariables false
set_option linter.unusedSimpArgs false
set_option linter.unusedSectionVars false
namespace Go.Proofs.YtimmncjdknlegaaDoor.Y
open Go.Proofs.YtimmncjdknlegaaDoor.AL Go.Proofs Go
attribute [local irreducible] AWP AWL AWG AWR AWE AWX AWO AWSeq AWSG AWSR AWSO AWSE AWSF GoodP OGW OGR OGE OGX PGW PGR PGE Wk AWLoop AWPD AWLD

theorem RFits_run (vs : List Vr) (c : Cod) (st : List Int) (x : Cal) (h1 : vs.length ≤ 2000000) (h2 : st.length ≤ 2000000) (hf : CodFine c) (H0 : List AObj) :
    ARun Tryd.prog 23 [.rs 5 (vs.map encV), agC c, .rs 1 (rI st), agL x] H0 (.ret (.b (fitsS vs c st x)) H0) := by
  have g1 := fun H0 => RVerify_run c vs.length hf H0
  have g2 := fun H0 => RState_run vs st h1 h2 H0
  have g3 := fun H0 => RCall_run x H0
  (refine ARun.intro Tryd.func23 rfl Tryd.call23 Tryd.ntmps23 Tryd.results23 ?_; simp only [List.length_cons, List.length_nil, List.length_map, Nat.reduceAdd, Nat.reduceSub, List.replicate_succ, List.replicate_zero, List.cons_append, List.nil_append])
  (have cc1 := fun z1 => g1 z1; have cc2 := fun z1 => g2 z1; have cc3 := fun z1 => g3 z1; refine wkO ?_; clear cc1 cc2 cc3; (repeat' first | exact True.intro | refine Lf.mk ?_ ?_); all_goals intro hP)
  all_goals ((refine resX ?_; try exact True.intro); simp_all [fitsS])
end Go.Proofs.YtimmncjdknlegaaDoor.Y

set_option maxHeartbeats 8000000
set_option maxRecDepth 100000
set_option linter.unusedVariables false
set_option linter.unusedSimpArgs false
set_option linter.unusedSectionVars false
namespace Go.Proofs.YtimmncjdknlegaaDoor.Y
open Go.Proofs.YtimmncjdknlegaaDoor.AL Go.Proofs Go
attribute [local irreducible] AWP AWL AWG AWR AWE AWX AWO AWSeq AWSG AWSR AWSO AWSE AWSF GoodP OGW OGR OGE OGX PGW PGR PGE Wk AWLoop AWPD AWLD
theorem dr24_23_X11f : Drawn Tryd.prog 23 (regOps 23 ((Tryd.f24.body).getD .skip)) [] [] [.win [0], .win [0], .win [0], .win [0], .win [0], .win [0], .win [0], .win [0], .win [0], .win [0], .win [0], .win [0], .win [0], .win [0], .win [0], .win [0], .win [0], .win [0], .win [0], .win [0], .win [0], .win [0], .win [0], .win [0], .win [0], .win [0]] 0 [] := ⟨rfl, by as_aux_lemma => kernel_rfl⟩
theorem dr24_25_X11f : Drawn Tryd.prog 25 (regOps 25 ((Tryd.f24.body).getD .skip)) [9] [] [.win [0], .win [0], .win [0], .win [0], .win [0], .win [0], .win [0], .win [0], .win [0], .eff 0] 1 [] := ⟨rfl, by as_aux_lemma => kernel_rfl⟩
theorem dr24_28_X11f : Drawn Tryd.prog 28 (regOps 28 ((Tryd.f24.body).getD .skip)) [12] [] [.win [0], .win [0], .win [0], .win [0], .win [0], .win [0], .win [0], .win [0], .win [0], .win [0], .win [0], .win [0], .eff 0, .win [1]] 1 [] := ⟨rfl, by as_aux_lemma => kernel_rfl⟩
theorem dr24_12_X11f : Drawn Tryd.prog 12 (regOps 12 ((Tryd.f24.body).getD .skip)) [12] [] [.win [0], .win [0], .win [0], .win [0], .win [0], .win [0], .win [0], .win [0], .win [0], .win [0], .win [0], .win [0], .eff 0, .win [1], .win [1], .win [1], .win [1], .win [1]] 1 [] := ⟨rfl, by as_aux_lemma => kernel_rfl⟩

def outT (r : Except Int (List Int) × Nat) : AV := .tup [.rs 1 (rI (runL r.1)), .i r.2, .i (runE r.1)]
def inC (i0 i1 i2 i3 : Int) : List AV := [.i i0, .i i1, .i i2, .i i3]
theorem inC_len {i0 i1 i2 i3 : Int} : (inC i0 i1 i2 i3).length = 4 := rfl
theorem inC_get {i0 i1 i2 i3 : Int} {k : Nat} (h : k < 4) : (inC i0 i1 i2 i3)[k]? = some (.i (inS i0 i1 i2 i3 k)) := by
  have : k = 0 ∨ k = 1 ∨ k = 2 ∨ k = 3 := by omega
  rcases this with rfl | rfl | rfl | rfl <;> rfl
theorem inC_under {i0 i1 i2 i3 : Int} {t : TypeId} {m : Nat} : (AObj.cells t (inC i0 i1 i2 i3)).under m := by
  intro c hc
  simp only [inC, List.mem_cons, List.not_mem_nil, or_false] at hc
  rcases hc with rfl | rfl | rfl | rfl <;> simp only [AV.under]
def calV (r : Except Int Int) : Int := match r with
  | .ok v => v
  | .error _ => 0
def calE (r : Except Int Int) : Int := match r with
  | .ok _ => 0
  | .error e => e
theorem cal_ok {op a b : Int} (h : calE (calcS op a b) = 0) : calcS op a b = .ok (calV (calcS op a b)) := by
  cases e : calcS op a b with
  | ok v => rfl
  | error x => rw [e] at h; have := calcS_err e; simp only [calE] at h; omega
theorem cal_err {op a b : Int} (h : ¬ calE (calcS op a b) = 0) : calcS op a b = .error (calE (calcS op a b)) := by
  cases e : calcS op a b with
  | ok v => rw [e] at h; exact absurd rfl h
  | error x => rfl
abbrev rT (now : List Int) : AObj := .arr 3 1 (now.map fun v => [AV.i v])
theorem outC_eq (r : Except Int Int) : outC r = .tup [.i (calV r), .i (calE r)] := by cases r <;> rfl
theorem outT_err {e : Int} {n : Nat} : Cv (.tup [.pv (.sc (.slice none 0 0)), .i n, .i e]) (outT (.error e, n)) :=
  Cv.tup ⟨Cv.nil (by decide), Cv.refl _, Cv.refl _, trivial⟩
theorem RTrace_run (vs : List Vr) (l : List Ins) (st : List Int) (i0 i1 i2 i3 : Int) (ht : Nat → Int) (hc : Cert l vs.length ht) (hs : stOk vs st = true) (hi : ∀ j, isV (inS i0 i1 i2 i3 j)) (hv : vs.length ≤ 12) (H0 : List AObj) :
    ARun Tryd.prog 24 [.rs 5 (vs.map encV), .rs 3 (l.map encI), .rs 1 (rI st), .agg [.i i0, .i i1, .i i2, .i i3]] H0 (.ret (outT (traceS vs i0 i1 i2 i3 l (l.length + 1) ⟨st, [], 0⟩ 0)) H0) := by
  have hsl := stOk_len hs
  have hl := hc.len
  have hk1 : ((st.length : Nat) : Int) ≤ 281474976710656 := by omega
  (refine ARun.intro Tryd.func24 rfl Tryd.call24 Tryd.ntmps24 Tryd.results24 ?_; simp only [List.length_cons, List.length_nil, List.length_map, Nat.reduceAdd, Nat.reduceSub, List.replicate_succ, List.replicate_zero, List.cons_append, List.nil_append])
  (have rr1 := dr24_23_X11f; have rr2 := dr24_25_X11f; have rr3 := dr24_28_X11f; have rr4 := dr24_12_X11f; refine wkO ?_; clear rr1 rr2 rr3 rr4; (repeat' first | exact True.intro | refine Lf.mk ?_ ?_); all_goals intro hP)
  refine awp_wk (Wk.ghost 12 3 (sz := 1) (by decide) rfl) ?_
  refine awp_loop_ind (σ := Cf × List Int × Nat) (fun s => l.length - s.1.at') (fun s => TInv vs i0 i1 i2 i3 l ht st s.1 s.2.2 ∧ s.1.stk.length + s.2.1.length ≤ 64)
    (fun s => (.rs 5 (vs.map encV) :: .rs 3 (l.map encI) :: .any :: .any :: .any :: .any :: .any :: .p H0.length 0 :: .any :: .any :: .any :: .os (H0.length + 1) 0 vs.length vs.length :: .os (H0.length + 2) 0 s.1.stk.length (s.1.stk.length + s.2.1.length) :: .i s.2.2 :: .i s.1.at' :: .any :: .any :: .any :: .any :: .any :: .any :: .any :: .any :: .any :: .any :: .any :: .any :: .any :: .any :: .any :: .any :: .any :: .any :: .any :: .any :: .any :: .any :: .any :: .any :: .any :: .any :: .any :: .any :: .any :: .any :: .any :: .any :: .any :: .any :: .any :: .any :: .any :: .any :: .any :: .any :: .any :: .any :: .any :: .any :: .any :: .any :: .any :: .any :: .any :: .any :: .any :: .any :: .any :: .any :: .any :: .any :: .any :: .any :: .any :: .any :: .any :: .any :: .any :: .any :: .any :: .any :: .any :: .any :: .any :: .any :: .any :: .any :: .any :: .any :: .any :: .any :: .any :: .any :: .any :: .any :: .any :: .any :: .any :: .any :: .any :: .any :: .any :: .any :: .any :: .any :: .any :: .any :: .any :: .any :: .any :: .any :: .any :: .any :: .any :: .any :: .any :: .any :: .any :: .any :: .any :: .any :: .any :: .any :: .any :: .any :: .any :: .any :: .any :: .any :: .any :: .any :: .any :: .any :: .any :: .any :: .any :: .any :: .any :: .any :: .any :: .any :: .any :: .any :: .any :: .any :: .any :: .any :: .any :: .any :: .any :: .any :: .any :: .any :: .any :: .any :: .any :: .any :: .any :: .any :: .any :: .any :: .any :: .any :: []))
    (fun s => H0 ++ [.cells 28 (inC i0 i1 i2 i3), rT s.1.now, rT (s.1.stk ++ s.2.1)]) (⟨st, [], 0⟩, [], 0) ⟨TInv.start hc hs, by simp⟩ ?_ ?_
  · refine Wk.fgtE ?_ ?_
    · simp [rT, inC, List.map_map, Function.comp_def, List.append_assoc]
    · simp only [List.set_cons_succ, List.set_cons_zero, List.length_append, List.length_cons, List.length_nil, hsl, Nat.add_zero, Nat.zero_add, Nat.reduceAdd, Fgt, Int.natCast_zero, Int.cast_ofNat_Int, Int.ofNat_eq_natCast, true_or, or_true, true_and, and_true, and_self, eq_self]
  · rintro ⟨⟨now, stk, at'⟩, junk, n⟩ ⟨t, hj⟩
    simp only at t hj ⊢
    have hnow := t.ok.now
    have hle := t.le
    have hnle := t.nle
    simp only at hnow hle hnle
    cases hx : l[at']? with
    | none =>
      have hge : l.length ≤ at' := List.getElem?_eq_none_iff.1 hx
      rw [t.stop hx]
      (refine wkO ?_; (repeat' first | exact True.intro | refine Lf.mk ?_ ?_); all_goals intro hP)
      refine ⟨_, rfl, _, rfl, Fin.pureC 2 ?_⟩
      rw [AV.low, List.map_cons, low_ints (t := 3) (by simp only [getOk, List.getElem?_cons_succ, List.getElem?_cons_zero]) (by omega) hnow.symm]
      exact Cv.tup ⟨Cv.refl _, Cv.of (by simp only [AV.low, List.map_cons, List.map_nil]), Cv.of (by simp only [AV.low, runE]), trivial⟩
    | some x =>
      have hlt := (List.getElem?_eq_some_iff.1 hx).1
      obtain ⟨op, nn, rel⟩ := x
      have hx' : (l.map encI)[at']? = some (cI ⟨op, nn, rel⟩) := by rw [List.getElem?_map, hx]; rfl
      have hA := cert_At hc hx t.ht
      have hop := insOk_op hA.ok
      have hok := hA.ok
      have htk := hA.tk
      have hpt := hA.pt
      simp only at hop hok htk hpt
      have o2 : op = 2 ∨ op = 11 → 0 ≤ nn ∧ nn < vs.length := by intro h; unfold insOk at hok; rcases h with rfl | rfl <;> simp at hok <;> omega
      have o3 : op = 3 → 0 ≤ nn ∧ nn < 4 := by intro h; unfold insOk at hok; subst h; simp at hok; omega
      have oj : op = 12 ∨ op = 13 → 0 ≤ nn := by intro h; unfold insOk at hok; rcases h with rfl | rfl <;> simp at hok <;> omega
      have k1 : op = 11 → 1 ≤ stk.length := by rintro rfl; simp [takes] at htk; omega
      have k2 : op = 12 ∨ (op ≠ 1 ∧ op ≠ 2 ∧ op ≠ 3 ∧ op ≠ 11 ∧ op ≠ 13) → 2 ≤ stk.length := by intro h; have := takes_2 h; omega
      have o12 : op = 12 → 1 ≤ rel ∧ rel ≤ 6 := by intro h; unfold insOk at hok; subst h; simp at hok; omega
      have k0 : op = 1 ∨ op = 2 ∨ op = 3 → stk.length < 64 := by intro h; rcases h with rfl | rfl | rfl <;> simp [takes, puts] at hpt <;> omega
      have hcalc : (op ≠ 1 ∧ op ≠ 2 ∧ op ≠ 3 ∧ op ≠ 11 ∧ op ≠ 12 ∧ op ≠ 13) → ∀ H0, ARun Tryd.prog 32 [.i op, .i (stk.getD (stk.length - 2) 0), .i (stk.getD (stk.length - 1) 0)] H0 (.ret (.tup [.i (calV (calcS op (stk.getD (stk.length - 2) 0) (stk.getD (stk.length - 1) 0))), .i (calE (calcS op (stk.getD (stk.length - 2) 0) (stk.getD (stk.length - 1) 0)))]) H0) := by
        intro h H0
        have h2 := k2 (.inr (by omega))
        rw [← outC_eq]
        exact Rcalc_run _ _ _ (by omega) (t.ok.stkV _ (getD_mem (l := stk) (by omega))) (t.ok.stkV _ (getD_mem (l := stk) (by omega))) H0
      have htn1 : ((stk.length : Int) - 1).toNat = stk.length - 1 := by omega
      have htn2 : ((stk.length : Int) - 2).toNat = stk.length - 2 := by omega
      have hw1 : IntKind.i64.wrap ((at' : Int) + 1) = ((at' + 1 : Nat) : Int) := by rw [wrap_of (by omega) (by omega)]; omega
      have hw2 : IntKind.i64.wrap ((n : Int) + 1) = ((n + 1 : Nat) : Int) := by rw [wrap_of (by omega) (by omega)]; omega
      repeat' (first | refine awp_seq ?_ | refine awp_block ?_ | refine awp_scope ?_ | ((first | refine awp_region_k fun Kn Kp hn hp => ?_ | show AWP _ _ (Code.region 23 _ true) _ _ _; refine awp_drawn_k (id := 23) [] [] [.win [0], .win [0], .win [0], .win [0], .win [0], .win [0], .win [0], .win [0], .win [0], .win [0], .win [0], .win [0], .win [0], .win [0], .win [0], .win [0], .win [0], .win [0], .win [0], .win [0], .win [0], .win [0], .win [0], .win [0], .win [0], .win [0]] 0 rfl (by as_aux_lemma => kernel_rfl) fun Kn Kp hn hp => ?_ | show AWP _ _ (Code.region 25 _ true) _ _ _; refine awp_drawn_k (id := 25) [9] [] [.win [0], .win [0], .win [0], .win [0], .win [0], .win [0], .win [0], .win [0], .win [0], .eff 0] 1 rfl (by as_aux_lemma => kernel_rfl) fun Kn Kp hn hp => ?_ | show AWP _ _ (Code.region 28 _ true) _ _ _; refine awp_drawn_k (id := 28) [12] [] [.win [0], .win [0], .win [0], .win [0], .win [0], .win [0], .win [0], .win [0], .win [0], .win [0], .win [0], .win [0], .eff 0, .win [1]] 1 rfl (by as_aux_lemma => kernel_rfl) fun Kn Kp hn hp => ?_ | show AWP _ _ (Code.region 12 _ true) _ _ _; refine awp_drawn_k (id := 12) [12] [] [.win [0], .win [0], .win [0], .win [0], .win [0], .win [0], .win [0], .win [0], .win [0], .win [0], .win [0], .win [0], .eff 0, .win [1], .win [1], .win [1], .win [1], .win [1]] 1 rfl (by as_aux_lemma => kernel_rfl) fun Kn Kp hn hp => ?_ | refine oge_intro (by assumption) ?_ | (show AWE _ _ _ _ _ _ _ _ _; first | refine awe_intro (hcalc (by omega) _) ?_ | refine awe_intro (RHolds_run _ _ _ (by omega) _) ?_) | (show AWSF _ _ _ _ _ _ _ _ _ _ _; first | refine awsf_intro (hcalc (by omega) _) (fun hrun => ?_) | refine awsf_intro (RHolds_run _ _ _ (by omega) _) (fun hrun => ?_)) | (show OGE _ _ _ _ _ _ _; first | refine oge_intro (hcalc (by omega) _) ?_ | refine oge_intro (RHolds_run _ _ _ (by omega) _) ?_) | (show AWSE _ _ _ _ _ _ _ _ _ _ _; first | refine awse_intro (hcalc (by omega) _) (fun hrun => ?_) | refine awse_intro (RHolds_run _ _ _ (by omega) _) (fun hrun => ?_)) | (show PGE _ _ _ _ _; first | refine pge_intro (hcalc (by omega) _) (fun tm' => ?_) | refine pge_intro (RHolds_run _ _ _ (by omega) _) (fun tm' => ?_))) <;> (simp only [go_sem, Nat.reduceAdd, Nat.reduceSub, Nat.reduceMul, Nat.reduceLeDiff, Nat.reduceLT, Nat.reduceEqDiff, Int.reduceToNat, Int.reduceAdd, Int.reduceMul, Int.reduceSub, Int.reduceLT, Int.reduceLE, Int.reduceEq, Int.reduceNeg, Int.reduceBEq, Int.reduceBNe, ↓reduceIte, reduceCtorEq, getEI, getEV, encV_eq, inC_len, List.length_map, List.length_append, t.ok.now, hx', Option.map_some, row_set, Int.toNat_natCast, hnow, hw1, hw2, getEApp, inC_get, getD_app, htn1, htn2, Nat.mul_one, Nat.sub_zero] <;> try simp (disch := omega) only [wrap_of])) | (refine hn _ _ ?_; clear hn hp Kn Kp) | (refine hp _ _ _ ?_; clear hn hp Kn Kp) | (simp (disch := omega) only [getSkip16, setSkip16, getAt1, setAt1, getAt2, setAt2, getAt3, setAt3, getAt4, setAt4, getAt5, setAt5, getAt6, setAt6, getAt7, setAt7, getAt8, setAt8, getAt9, setAt9, getAt10, setAt10, getAt11, setAt11, getAt12, setAt12, getAt13, setAt13, getAt14, setAt14, getAt15, setAt15, go_sem, Nat.reduceAdd, Nat.reduceSub, Nat.reduceMul, Nat.reduceLeDiff, Nat.reduceLT, Nat.reduceEqDiff, Int.reduceToNat, Int.reduceAdd, Int.reduceMul, Int.reduceSub, Int.reduceLT, Int.reduceLE, Int.reduceEq, Int.reduceNeg, Int.reduceBEq, Int.reduceBNe, ↓reduceIte, reduceCtorEq, getEI, getEV, encV_eq, inC_len, List.length_map, List.length_append, t.ok.now, hx', Option.map_some, row_set, Int.toNat_natCast, hnow, hw1, hw2, getEApp, inC_get, getD_app, htn1, htn2, Nat.mul_one, Nat.sub_zero, if_pos, if_neg, decide_pos', decide_neg', beq_pos', beq_neg', bne_pos', bne_neg', wrap_of]) | (refine awp_cond_t rfl (by first | with_reducible rfl | (simp only [Bool.and_eq_true, Bool.or_eq_true, Bool.and_eq_false_iff, Bool.or_eq_false_iff, decide_eq_true_eq, decide_eq_false_iff_not, beq_iff_eq, bne_iff_ne, bne_eq_false_iff_eq, beq_eq_false_iff_ne, ne_eq, Bool.not_eq_true', Bool.not_eq_false', not_true_eq_false, not_false_eq_true]; omega)) ?_) | (refine awp_cond_f rfl (by first | with_reducible rfl | (simp only [Bool.and_eq_true, Bool.or_eq_true, Bool.and_eq_false_iff, Bool.or_eq_false_iff, decide_eq_true_eq, decide_eq_false_iff_not, beq_iff_eq, bne_iff_ne, bne_eq_false_iff_eq, beq_eq_false_iff_ne, ne_eq, Bool.not_eq_true', Bool.not_eq_false', not_true_eq_false, not_false_eq_true]; omega)) ?_) | (refine awp_cond rfl (fun hb => ?_) (fun hb => ?_) <;> (try simp only [decide_eq_true_eq, decide_eq_false_iff_not, Bool.not_eq_true', Bool.not_eq_false', Bool.true_eq_false, Bool.false_eq_true, beq_iff_eq, bne_iff_ne, Bool.or_eq_true, Bool.and_eq_true, Bool.or_eq_false_iff, Bool.and_eq_false_iff, bne_eq_false_iff_eq, beq_eq_false_iff_ne, gt_iff_lt, ge_iff_le, Int.reduceEq, Int.reduceNe, Int.reduceLT, Int.reduceLE, ne_eq, not_true_eq_false, not_false_eq_true] at hb)) | ((first | refine awg_split (fun hb => ?_) (fun hb => ?_) | refine awsg_split (fun hb => ?_) (fun hb => ?_)) <;> have hb0 := hb <;> (try simp only [decide_eq_true_eq, decide_eq_false_iff_not, Bool.not_eq_true', Bool.not_eq_false', Bool.true_eq_false, Bool.false_eq_true, beq_iff_eq, bne_iff_ne, Bool.or_eq_true, Bool.and_eq_true, Bool.or_eq_false_iff, Bool.and_eq_false_iff, bne_eq_false_iff_eq, beq_eq_false_iff_ne, gt_iff_lt, ge_iff_le, Int.reduceEq, Int.reduceNe, Int.reduceLT, Int.reduceLE, ne_eq, not_true_eq_false, not_false_eq_true] at hb0) <;> (try simp only [beq_true, beq_false, Bool.not_eq_true', Bool.not_eq_false'] at hb) <;> (simp only [go_sem, Nat.reduceAdd, Nat.reduceSub, Nat.reduceMul, Nat.reduceLeDiff, Nat.reduceLT, Nat.reduceEqDiff, Int.reduceToNat, Int.reduceAdd, Int.reduceMul, Int.reduceSub, Int.reduceLT, Int.reduceLE, Int.reduceEq, Int.reduceNeg, Int.reduceBEq, Int.reduceBNe, ↓reduceIte, reduceCtorEq, getEI, getEV, encV_eq, inC_len, List.length_map, List.length_append, t.ok.now, hx', Option.map_some, row_set, Int.toNat_natCast, hnow, hw1, hw2, getEApp, inC_get, getD_app, htn1, htn2, Nat.mul_one, Nat.sub_zero, hb, hb0] <;> try simp (disch := omega) only [wrap_of])) | (refine And.intro ?_ ?_) | refine awp_skip ?_ | refine awp_ret ?_ | refine awp_exit ?_ | refine awp_label ?_ | refine awloop_step ?_ | (show AWR _ _ _ _ _ _ _ _; (rcases junk with _ | ⟨jr0, jr⟩ <;> simp only [List.length_nil, List.length_cons, Nat.add_zero, List.append_nil])) | fail)
      all_goals clear hcalc hpt htk hok hA
      · have hs : stepS vs i0 i1 i2 i3 ⟨op, nn, rel⟩ ⟨now, stk, at'⟩ = .ok ⟨now, stk ++ [nn], at' + 1⟩ := by simp only [stepS]; simp (disch := omega) only [getEV, if_pos, if_neg]
        obtain ⟨t', hm⟩ := TInv.next hc hi t hx hs
        refine ⟨(⟨now, stk ++ [nn], at' + 1⟩, ([] : List Int), n + 1), hm, ⟨t', ?_⟩, ?_⟩
        · (try simp only [List.length_append, List.length_cons, List.length_nil, List.length_take, List.length_drop, List.length_set] at hj ⊢); omega
        · refine Wk.keepE 3 1 ?_ (by simp) (by intro o ho; simp only [List.mem_cons, List.not_mem_nil, or_false] at ho; rcases ho with rfl | rfl | rfl <;> (first | exact row_under | exact inC_under)) ?_
          · simp only [List.take_succ_cons, List.take_zero, rT]; (try rw [row_put (by omega)]); (try rw [cut_row (a := stk) (b := junk) (k := stk.length - 1) (by omega)]); (try rw [cut_row (a := stk) (b := junk) (k := stk.length - 2) (by omega)]); (try simp [List.take_append_drop])
          · (try have he1 : stk.length - 1 + (stk.length + junk.length - (stk.length - 1)) = stk.length + junk.length := by omega)
            (try have he2 : stk.length - 2 + (stk.length + junk.length - (stk.length - 2)) = stk.length + junk.length := by omega)
            (try have he3 : stk.length - 2 + 1 + (stk.length + junk.length - (stk.length - 2 + 1)) = stk.length + junk.length := by omega)
            (try have he4 : max nn 0 = nn := by omega)
            (try simp [AV.low, Fgt, *])
            try omega
      · have hs : stepS vs i0 i1 i2 i3 ⟨op, nn, rel⟩ ⟨now, stk, at'⟩ = .ok ⟨now, stk ++ [nn], at' + 1⟩ := by simp only [stepS]; simp (disch := omega) only [getEV, if_pos, if_neg]
        obtain ⟨t', hm⟩ := TInv.next hc hi t hx hs
        refine ⟨(⟨now, stk ++ [nn], at' + 1⟩, jr, n + 1), hm, ⟨t', ?_⟩, ?_⟩
        · (try simp only [List.length_append, List.length_cons, List.length_nil, List.length_take, List.length_drop, List.length_set] at hj ⊢); omega
        · refine Wk.keepE 3 1 ?_ (by simp) (by intro o ho; simp only [List.mem_cons, List.not_mem_nil, or_false] at ho; rcases ho with rfl | rfl | rfl <;> (first | exact row_under | exact inC_under)) ?_
          · simp only [List.take_succ_cons, List.take_zero, rT]; (try rw [row_put (by omega)]); (try rw [cut_row (a := stk) (b := junk) (k := stk.length - 1) (by omega)]); (try rw [cut_row (a := stk) (b := junk) (k := stk.length - 2) (by omega)]); (try simp [List.take_append_drop])
          · (try have he1 : stk.length - 1 + (stk.length + junk.length - (stk.length - 1)) = stk.length + junk.length := by omega)
            (try have he2 : stk.length - 2 + (stk.length + junk.length - (stk.length - 2)) = stk.length + junk.length := by omega)
            (try have he3 : stk.length - 2 + 1 + (stk.length + junk.length - (stk.length - 2 + 1)) = stk.length + junk.length := by omega)
            (try have he4 : max nn 0 = nn := by omega)
            (try simp [AV.low, Fgt, *])
            try omega
      · have hs : stepS vs i0 i1 i2 i3 ⟨op, nn, rel⟩ ⟨now, stk, at'⟩ = .ok ⟨now, stk ++ [now.getD nn.toNat 0], at' + 1⟩ := by simp only [stepS]; simp (disch := omega) only [getEV, if_pos, if_neg]
        obtain ⟨t', hm⟩ := TInv.next hc hi t hx hs
        refine ⟨(⟨now, stk ++ [now.getD nn.toNat 0], at' + 1⟩, ([] : List Int), n + 1), hm, ⟨t', ?_⟩, ?_⟩
        · (try simp only [List.length_append, List.length_cons, List.length_nil, List.length_take, List.length_drop, List.length_set] at hj ⊢); omega
        · refine Wk.keepE 3 1 ?_ (by simp) (by intro o ho; simp only [List.mem_cons, List.not_mem_nil, or_false] at ho; rcases ho with rfl | rfl | rfl <;> (first | exact row_under | exact inC_under)) ?_
          · simp only [List.take_succ_cons, List.take_zero, rT]; (try rw [row_put (by omega)]); (try rw [cut_row (a := stk) (b := junk) (k := stk.length - 1) (by omega)]); (try rw [cut_row (a := stk) (b := junk) (k := stk.length - 2) (by omega)]); (try simp [List.take_append_drop])
          · (try have he1 : stk.length - 1 + (stk.length + junk.length - (stk.length - 1)) = stk.length + junk.length := by omega)
            (try have he2 : stk.length - 2 + (stk.length + junk.length - (stk.length - 2)) = stk.length + junk.length := by omega)
            (try have he3 : stk.length - 2 + 1 + (stk.length + junk.length - (stk.length - 2 + 1)) = stk.length + junk.length := by omega)
            (try have he4 : max nn 0 = nn := by omega)
            (try simp [AV.low, Fgt, *])
            try omega
      · have hs : stepS vs i0 i1 i2 i3 ⟨op, nn, rel⟩ ⟨now, stk, at'⟩ = .ok ⟨now, stk ++ [now.getD nn.toNat 0], at' + 1⟩ := by simp only [stepS]; simp (disch := omega) only [getEV, if_pos, if_neg]
        obtain ⟨t', hm⟩ := TInv.next hc hi t hx hs
        refine ⟨(⟨now, stk ++ [now.getD nn.toNat 0], at' + 1⟩, jr, n + 1), hm, ⟨t', ?_⟩, ?_⟩
        · (try simp only [List.length_append, List.length_cons, List.length_nil, List.length_take, List.length_drop, List.length_set] at hj ⊢); omega
        · refine Wk.keepE 3 1 ?_ (by simp) (by intro o ho; simp only [List.mem_cons, List.not_mem_nil, or_false] at ho; rcases ho with rfl | rfl | rfl <;> (first | exact row_under | exact inC_under)) ?_
          · simp only [List.take_succ_cons, List.take_zero, rT]; (try rw [row_put (by omega)]); (try rw [cut_row (a := stk) (b := junk) (k := stk.length - 1) (by omega)]); (try rw [cut_row (a := stk) (b := junk) (k := stk.length - 2) (by omega)]); (try simp [List.take_append_drop])
          · (try have he1 : stk.length - 1 + (stk.length + junk.length - (stk.length - 1)) = stk.length + junk.length := by omega)
            (try have he2 : stk.length - 2 + (stk.length + junk.length - (stk.length - 2)) = stk.length + junk.length := by omega)
            (try have he3 : stk.length - 2 + 1 + (stk.length + junk.length - (stk.length - 2 + 1)) = stk.length + junk.length := by omega)
            (try have he4 : max nn 0 = nn := by omega)
            (try simp [AV.low, Fgt, *])
            try omega
      · have hs : stepS vs i0 i1 i2 i3 ⟨op, nn, rel⟩ ⟨now, stk, at'⟩ = .ok ⟨now, stk ++ [inS i0 i1 i2 i3 nn.toNat], at' + 1⟩ := by simp only [stepS]; simp (disch := omega) only [getEV, if_pos, if_neg]
        obtain ⟨t', hm⟩ := TInv.next hc hi t hx hs
        refine ⟨(⟨now, stk ++ [inS i0 i1 i2 i3 nn.toNat], at' + 1⟩, ([] : List Int), n + 1), hm, ⟨t', ?_⟩, ?_⟩
        · (try simp only [List.length_append, List.length_cons, List.length_nil, List.length_take, List.length_drop, List.length_set] at hj ⊢); omega
        · refine Wk.keepE 3 1 ?_ (by simp) (by intro o ho; simp only [List.mem_cons, List.not_mem_nil, or_false] at ho; rcases ho with rfl | rfl | rfl <;> (first | exact row_under | exact inC_under)) ?_
          · simp only [List.take_succ_cons, List.take_zero, rT]; (try rw [row_put (by omega)]); (try rw [cut_row (a := stk) (b := junk) (k := stk.length - 1) (by omega)]); (try rw [cut_row (a := stk) (b := junk) (k := stk.length - 2) (by omega)]); (try simp [List.take_append_drop])
          · (try have he1 : stk.length - 1 + (stk.length + junk.length - (stk.length - 1)) = stk.length + junk.length := by omega)
            (try have he2 : stk.length - 2 + (stk.length + junk.length - (stk.length - 2)) = stk.length + junk.length := by omega)
            (try have he3 : stk.length - 2 + 1 + (stk.length + junk.length - (stk.length - 2 + 1)) = stk.length + junk.length := by omega)
            (try have he4 : max nn 0 = nn := by omega)
            (try simp [AV.low, Fgt, *])
            try omega
      · have hs : stepS vs i0 i1 i2 i3 ⟨op, nn, rel⟩ ⟨now, stk, at'⟩ = .ok ⟨now, stk ++ [inS i0 i1 i2 i3 nn.toNat], at' + 1⟩ := by simp only [stepS]; simp (disch := omega) only [getEV, if_pos, if_neg]
        obtain ⟨t', hm⟩ := TInv.next hc hi t hx hs
        refine ⟨(⟨now, stk ++ [inS i0 i1 i2 i3 nn.toNat], at' + 1⟩, jr, n + 1), hm, ⟨t', ?_⟩, ?_⟩
        · (try simp only [List.length_append, List.length_cons, List.length_nil, List.length_take, List.length_drop, List.length_set] at hj ⊢); omega
        · refine Wk.keepE 3 1 ?_ (by simp) (by intro o ho; simp only [List.mem_cons, List.not_mem_nil, or_false] at ho; rcases ho with rfl | rfl | rfl <;> (first | exact row_under | exact inC_under)) ?_
          · simp only [List.take_succ_cons, List.take_zero, rT]; (try rw [row_put (by omega)]); (try rw [cut_row (a := stk) (b := junk) (k := stk.length - 1) (by omega)]); (try rw [cut_row (a := stk) (b := junk) (k := stk.length - 2) (by omega)]); (try simp [List.take_append_drop])
          · (try have he1 : stk.length - 1 + (stk.length + junk.length - (stk.length - 1)) = stk.length + junk.length := by omega)
            (try have he2 : stk.length - 2 + (stk.length + junk.length - (stk.length - 2)) = stk.length + junk.length := by omega)
            (try have he3 : stk.length - 2 + 1 + (stk.length + junk.length - (stk.length - 2 + 1)) = stk.length + junk.length := by omega)
            (try have he4 : max nn 0 = nn := by omega)
            (try simp [AV.low, Fgt, *])
            try omega
      · have hs : stepS vs i0 i1 i2 i3 ⟨op, nn, rel⟩ ⟨now, stk, at'⟩ = .error 15 := by simp only [stepS]; simp (disch := omega) only [getEV, if_pos, if_neg]
        rw [t.err hx hs]
        refine ⟨_, rfl, _, rfl, Fin.pureC 2 ?_⟩
        simp only [AV.low, List.map_cons, List.map_nil]
        exact outT_err
      · have hs : stepS vs i0 i1 i2 i3 ⟨op, nn, rel⟩ ⟨now, stk, at'⟩ = .ok ⟨now.set nn.toNat (stk.getD (stk.length - 1) 0), stk.take (stk.length - 1), at' + 1⟩ := by simp only [stepS]; simp (disch := omega) only [getEV, if_pos, if_neg]
        obtain ⟨t', hm⟩ := TInv.next hc hi t hx hs
        refine ⟨(⟨now.set nn.toNat (stk.getD (stk.length - 1) 0), stk.take (stk.length - 1), at' + 1⟩, (stk ++ junk).drop (stk.length - 1), n + 1), hm, ⟨t', ?_⟩, ?_⟩
        · (try simp only [List.length_append, List.length_cons, List.length_nil, List.length_take, List.length_drop, List.length_set] at hj ⊢); omega
        · refine Wk.keepE 3 1 ?_ (by simp) (by intro o ho; simp only [List.mem_cons, List.not_mem_nil, or_false] at ho; rcases ho with rfl | rfl | rfl <;> (first | exact row_under | exact inC_under)) ?_
          · simp only [List.take_succ_cons, List.take_zero, rT]; (try rw [row_put (by omega)]); (try rw [cut_row (a := stk) (b := junk) (k := stk.length - 1) (by omega)]); (try rw [cut_row (a := stk) (b := junk) (k := stk.length - 2) (by omega)]); (try simp [List.take_append_drop])
          · (try have he1 : stk.length - 1 + (stk.length + junk.length - (stk.length - 1)) = stk.length + junk.length := by omega)
            (try have he2 : stk.length - 2 + (stk.length + junk.length - (stk.length - 2)) = stk.length + junk.length := by omega)
            (try have he3 : stk.length - 2 + 1 + (stk.length + junk.length - (stk.length - 2 + 1)) = stk.length + junk.length := by omega)
            (try have he4 : max nn 0 = nn := by omega)
            (try simp [AV.low, Fgt, *])
            try omega
      · have hs : stepS vs i0 i1 i2 i3 ⟨op, nn, rel⟩ ⟨now, stk, at'⟩ = .error 15 := by simp only [stepS]; simp (disch := omega) only [getEV, if_pos, if_neg]
        rw [t.err hx hs]
        refine ⟨_, rfl, _, rfl, Fin.pureC 2 ?_⟩
        simp only [AV.low, List.map_cons, List.map_nil]
        exact outT_err
      · have hs : stepS vs i0 i1 i2 i3 ⟨op, nn, rel⟩ ⟨now, stk, at'⟩ = .ok ⟨now, stk.take (stk.length - 2), nn.toNat⟩ := by simp only [stepS]; simp (disch := omega) only [if_pos, if_neg, hb, Bool.false_eq_true, if_false, if_true]
        obtain ⟨t', hm⟩ := TInv.next hc hi t hx hs
        refine ⟨(⟨now, stk.take (stk.length - 2), nn.toNat⟩, (stk ++ junk).drop (stk.length - 2), n + 1), hm, ⟨t', ?_⟩, ?_⟩
        · (try simp only [List.length_append, List.length_cons, List.length_nil, List.length_take, List.length_drop, List.length_set] at hj ⊢); omega
        · refine Wk.keepE 3 1 ?_ (by simp) (by intro o ho; simp only [List.mem_cons, List.not_mem_nil, or_false] at ho; rcases ho with rfl | rfl | rfl <;> (first | exact row_under | exact inC_under)) ?_
          · simp only [List.take_succ_cons, List.take_zero, rT]; (try rw [row_put (by omega)]); (try rw [cut_row (a := stk) (b := junk) (k := stk.length - 1) (by omega)]); (try rw [cut_row (a := stk) (b := junk) (k := stk.length - 2) (by omega)]); (try simp [List.take_append_drop])
          · (try have he1 : stk.length - 1 + (stk.length + junk.length - (stk.length - 1)) = stk.length + junk.length := by omega)
            (try have he2 : stk.length - 2 + (stk.length + junk.length - (stk.length - 2)) = stk.length + junk.length := by omega)
            (try have he3 : stk.length - 2 + 1 + (stk.length + junk.length - (stk.length - 2 + 1)) = stk.length + junk.length := by omega)
            (try have he4 : max nn 0 = nn := by omega)
            (try simp [AV.low, Fgt, *])
            try omega
      · have hs : stepS vs i0 i1 i2 i3 ⟨op, nn, rel⟩ ⟨now, stk, at'⟩ = .ok ⟨now, stk.take (stk.length - 2), at' + 1⟩ := by simp only [stepS]; simp (disch := omega) only [if_pos, if_neg, hb, Bool.false_eq_true, if_false, if_true]
        obtain ⟨t', hm⟩ := TInv.next hc hi t hx hs
        refine ⟨(⟨now, stk.take (stk.length - 2), at' + 1⟩, (stk ++ junk).drop (stk.length - 2), n + 1), hm, ⟨t', ?_⟩, ?_⟩
        · (try simp only [List.length_append, List.length_cons, List.length_nil, List.length_take, List.length_drop, List.length_set] at hj ⊢); omega
        · refine Wk.keepE 3 1 ?_ (by simp) (by intro o ho; simp only [List.mem_cons, List.not_mem_nil, or_false] at ho; rcases ho with rfl | rfl | rfl <;> (first | exact row_under | exact inC_under)) ?_
          · simp only [List.take_succ_cons, List.take_zero, rT]; (try rw [row_put (by omega)]); (try rw [cut_row (a := stk) (b := junk) (k := stk.length - 1) (by omega)]); (try rw [cut_row (a := stk) (b := junk) (k := stk.length - 2) (by omega)]); (try simp [List.take_append_drop])
          · (try have he1 : stk.length - 1 + (stk.length + junk.length - (stk.length - 1)) = stk.length + junk.length := by omega)
            (try have he2 : stk.length - 2 + (stk.length + junk.length - (stk.length - 2)) = stk.length + junk.length := by omega)
            (try have he3 : stk.length - 2 + 1 + (stk.length + junk.length - (stk.length - 2 + 1)) = stk.length + junk.length := by omega)
            (try have he4 : max nn 0 = nn := by omega)
            (try simp [AV.low, Fgt, *])
            try omega
      · have hs : stepS vs i0 i1 i2 i3 ⟨op, nn, rel⟩ ⟨now, stk, at'⟩ = .ok ⟨now, stk, nn.toNat⟩ := by simp only [stepS]; simp (disch := omega) only [getEV, if_pos, if_neg]
        obtain ⟨t', hm⟩ := TInv.next hc hi t hx hs
        refine ⟨(⟨now, stk, nn.toNat⟩, junk, n + 1), hm, ⟨t', ?_⟩, ?_⟩
        · (try simp only [List.length_append, List.length_cons, List.length_nil, List.length_take, List.length_drop, List.length_set] at hj ⊢); omega
        · refine Wk.keepE 3 1 ?_ (by simp) (by intro o ho; simp only [List.mem_cons, List.not_mem_nil, or_false] at ho; rcases ho with rfl | rfl | rfl <;> (first | exact row_under | exact inC_under)) ?_
          · simp only [List.take_succ_cons, List.take_zero, rT]; (try rw [row_put (by omega)]); (try rw [cut_row (a := stk) (b := junk) (k := stk.length - 1) (by omega)]); (try rw [cut_row (a := stk) (b := junk) (k := stk.length - 2) (by omega)]); (try simp [List.take_append_drop])
          · (try have he1 : stk.length - 1 + (stk.length + junk.length - (stk.length - 1)) = stk.length + junk.length := by omega)
            (try have he2 : stk.length - 2 + (stk.length + junk.length - (stk.length - 2)) = stk.length + junk.length := by omega)
            (try have he3 : stk.length - 2 + 1 + (stk.length + junk.length - (stk.length - 2 + 1)) = stk.length + junk.length := by omega)
            (try have he4 : max nn 0 = nn := by omega)
            (try simp [AV.low, Fgt, *])
            try omega
      · have hs : stepS vs i0 i1 i2 i3 ⟨op, nn, rel⟩ ⟨now, stk, at'⟩ = .error (calE (calcS op (stk.getD (stk.length - 2) 0) (stk.getD (stk.length - 1) 0))) := by simp only [stepS]; simp (disch := omega) only [if_neg]; rw [cal_err hb]; rfl
        rw [t.err hx hs]
        refine ⟨_, rfl, _, rfl, Fin.pureC 2 ?_⟩
        simp only [AV.low, List.map_cons, List.map_nil]
        exact outT_err
      · have hs : stepS vs i0 i1 i2 i3 ⟨op, nn, rel⟩ ⟨now, stk, at'⟩ = .ok ⟨now, stk.take (stk.length - 2) ++ [calV (calcS op (stk.getD (stk.length - 2) 0) (stk.getD (stk.length - 1) 0))], at' + 1⟩ := by simp only [stepS]; simp (disch := omega) only [if_neg]; rw [cal_ok hb]; rfl
        obtain ⟨t', hm⟩ := TInv.next hc hi t hx hs
        refine ⟨(⟨now, stk.take (stk.length - 2) ++ [calV (calcS op (stk.getD (stk.length - 2) 0) (stk.getD (stk.length - 1) 0))], at' + 1⟩, (stk ++ junk).drop (stk.length - 2 + 1), n + 1), hm, ⟨t', ?_⟩, ?_⟩
        · (try simp only [List.length_append, List.length_cons, List.length_nil, List.length_take, List.length_drop, List.length_set] at hj ⊢); omega
        · refine Wk.keepE 3 1 ?_ (by simp) (by intro o ho; simp only [List.mem_cons, List.not_mem_nil, or_false] at ho; rcases ho with rfl | rfl | rfl <;> (first | exact row_under | exact inC_under)) ?_
          · simp only [List.take_succ_cons, List.take_zero, rT]; (try rw [row_put (by omega)]); (try rw [cut_row (a := stk) (b := junk) (k := stk.length - 1) (by omega)]); (try rw [cut_row (a := stk) (b := junk) (k := stk.length - 2) (by omega)]); (try simp [List.take_append_drop])
          · (try have he1 : stk.length - 1 + (stk.length + junk.length - (stk.length - 1)) = stk.length + junk.length := by omega)
            (try have he2 : stk.length - 2 + (stk.length + junk.length - (stk.length - 2)) = stk.length + junk.length := by omega)
            (try have he3 : stk.length - 2 + 1 + (stk.length + junk.length - (stk.length - 2 + 1)) = stk.length + junk.length := by omega)
            (try have he4 : max nn 0 = nn := by omega)
            (try simp [AV.low, Fgt, *])
            try omega
end Go.Proofs.YtimmncjdknlegaaDoor.Y

set_option maxHeartbeats 8000000
set_option maxRecDepth 100000
set_option linter.unusedVariables false
set_option linter.unusedSimpArgs false
set_option linter.unusedSectionVars false
namespace Go.Proofs.YtimmncjdknlegaaDoor.Y
open Go.Proofs.YtimmncjdknlegaaDoor.AL Go.Proofs Go
attribute [local irreducible] AWP AWL AWG AWR AWE AWX AWO AWSeq AWSG AWSR AWSO AWSE AWSF GoodP OGW OGR OGE OGX PGW PGR PGE Wk AWLoop AWPD AWLD
theorem dr10_4_X11g : Drawn Tryd.prog 4 (regOps 4 ((Tryd.f10.body).getD .skip)) [9] [] [.win [0], .win [0], .win [0], .win [0], .win [0], .win [0], .win [0], .win [0], .win [0], .eff 0, .win [1], .win [1], .win [1], .win [1], .win [1], .win [1], .win [1]] 1 [] := ⟨rfl, by as_aux_lemma => kernel_rfl⟩
theorem dr12_4_X11g : Drawn Tryd.prog 4 (regOps 4 ((Tryd.f12.body).getD .skip)) [9] [] [.win [0], .win [0], .win [0], .win [0], .win [0], .win [0], .win [0], .win [0], .win [0], .eff 0, .win [1], .win [1], .win [1], .win [1], .win [1], .win [1], .win [1]] 1 [] := ⟨rfl, by as_aux_lemma => kernel_rfl⟩

section
variable (vs : List Vr) (c : Cod) (st : List Int) (x : Cal) (h1 : vs.length ≤ 2000000) (h2 : st.length ≤ 2000000) (hf : CodFine c) (H0 : List AObj)
include h1 h2 hf
theorem RTr_run (hfit : fitsS vs c st x = true) (H0 : List AObj) : ARun Tryd.prog 24 [.rs 5 (vs.map encV), .rs 3 ((hand c x.ev).map encI), .rs 1 (rI st), .agg [.i x.i0, .i x.i1, .i x.i2, .i x.i3]] H0
    (.ret (.tup [.rs 1 (rI (runL (runS vs c st x).1)), .i (runS vs c st x).2, .i (runE (runS vs c st x).1)]) H0) := by
  obtain ⟨a, b, d⟩ := fits_all hfit
  obtain ⟨e1, e2⟩ := call_ev d
  obtain ⟨ht, hc⟩ := verH_cert (hand_ver a e1 e2)
  have hv := verC_vars a
  exact RTrace_run vs (hand c x.ev) st x.i0 x.i1 x.i2 x.i3 ht hc b (call_in d) (by omega) H0
theorem RRun_run : ARun Tryd.prog 10 [.rs 5 (vs.map encV), agC c, .rs 1 (rI st), agL x] H0
    (.ret (.tup [.rs 1 (rI (runL (refRunS vs c st x))), .i (runE (refRunS vs c st x))]) H0) := by
  have g1 := fun H0 => RFits_run vs c st x h1 h2 hf H0
  cases hfit : fitsS vs c st x with
  | true =>
    have g2 := fun H0 => RTr_run vs c st x h1 h2 hf hfit H0
    have hev := call_ev (fits_all hfit).2.2
    have hg := hand_get (c := c) hev
    obtain ⟨e1, e2⟩ := hev
    simp only [hfit] at g1
    (refine ARun.intro Tryd.func10 rfl Tryd.call10 Tryd.ntmps10 Tryd.results10 ?_; simp only [List.length_cons, List.length_nil, List.length_map, Nat.reduceAdd, Nat.reduceSub, List.replicate_succ, List.replicate_zero, List.cons_append, List.nil_append])
    (have rr1 := dr10_4_X11g; have ww1 := hg; have ww2 := e1; have ww3 := e2; have cc1 := fun z1 => g1 z1; have cc2 := fun z1 => g2 z1; refine wkO ?_; clear rr1 ww1 ww2 ww3 cc1 cc2; (repeat' first | exact True.intro | refine Lf.mk ?_ ?_); all_goals intro hP)
    (refine resX ?_; try exact True.intro)
    simp [refRunS, hfit]
  | false =>
    simp only [hfit] at g1
    (refine ARun.intro Tryd.func10 rfl Tryd.call10 Tryd.ntmps10 Tryd.results10 ?_; simp only [List.length_cons, List.length_nil, List.length_map, Nat.reduceAdd, Nat.reduceSub, List.replicate_succ, List.replicate_zero, List.cons_append, List.nil_append])
    (have rr1 := dr10_4_X11g; have cc1 := fun z1 => g1 z1; refine wkO ?_; clear rr1 cc1; (repeat' first | exact True.intro | refine Lf.mk ?_ ?_); all_goals intro hP)
    refine ⟨_, rfl, _, rfl, Fin.pureC 2 ?_⟩
    simp only [AV.low, List.map_cons, List.map_nil, refRunS, hfit, Bool.false_eq_true, if_false, runL, runE]
    exact Cv.tup ⟨Cv.nil (by decide), Cv.refl _, trivial⟩
theorem RSteps_run : ARun Tryd.prog 12 [.rs 5 (vs.map encV), agC c, .rs 1 (rI st), agL x] H0
    (.ret (.tup [.i (stepsN vs c st x), .i (stepsE vs c st x)]) H0) := by
  have g1 := fun H0 => RFits_run vs c st x h1 h2 hf H0
  cases hfit : fitsS vs c st x with
  | true =>
    have g2 := fun H0 => RTr_run vs c st x h1 h2 hf hfit H0
    have hev := call_ev (fits_all hfit).2.2
    have hg := hand_get (c := c) hev
    obtain ⟨e1, e2⟩ := hev
    simp only [hfit] at g1
    (refine ARun.intro Tryd.func12 rfl Tryd.call12 Tryd.ntmps12 Tryd.results12 ?_; simp only [List.length_cons, List.length_nil, List.length_map, Nat.reduceAdd, Nat.reduceSub, List.replicate_succ, List.replicate_zero, List.cons_append, List.nil_append])
    (have rr1 := dr12_4_X11g; have ww1 := hg; have ww2 := e1; have ww3 := e2; have cc1 := fun z1 => g1 z1; have cc2 := fun z1 => g2 z1; refine wkO ?_; clear rr1 ww1 ww2 ww3 cc1 cc2; (repeat' first | exact True.intro | refine Lf.mk ?_ ?_); all_goals intro hP)
    (refine resX ?_; try exact True.intro)
    simp [stepsN, stepsE, hfit]
  | false =>
    simp only [hfit] at g1
    (refine ARun.intro Tryd.func12 rfl Tryd.call12 Tryd.ntmps12 Tryd.results12 ?_; simp only [List.length_cons, List.length_nil, List.length_map, Nat.reduceAdd, Nat.reduceSub, List.replicate_succ, List.replicate_zero, List.cons_append, List.nil_append])
    (have rr1 := dr12_4_X11g; have cc1 := fun z1 => g1 z1; refine wkO ?_; clear rr1 cc1; (repeat' first | exact True.intro | refine Lf.mk ?_ ?_); all_goals intro hP)
    (refine resX ?_; try exact True.intro)
    simp [stepsN, stepsE, hfit]
end
end Go.Proofs.YtimmncjdknlegaaDoor.Y

set_option maxHeartbeats 8000000
set_option maxRecDepth 100000
set_option linter.unusedVariables false
set_option linter.unusedSimpArgs false
set_option linter.unusedSectionVars false
namespace Go.Proofs.YtimmncjdknlegaaDoor.Y
open Go.Proofs.YtimmncjdknlegaaDoor.AL Go.Proofs Go
attribute [local irreducible] AWP AWL AWG AWR AWE AWX AWO AWSeq AWSG AWSR AWSO AWSE AWSF GoodP OGW OGR OGE OGX PGW PGR PGE Wk AWLoop AWPD AWLD

theorem MMR_run (vs : List Vr) (c : Cod) (st : List Int) (x : Cal) (hf : CodFine c) (hv : vs.length ≤ 2000000) (hs : st.length ≤ 2000000) :
    ARun Tryd.prog 3 [.rs 5 (vs.map encV), agC c, .rs 1 (rI st), agL x] [] (.ret (.b true) []) := by
  have h0 := fun H0 => head_run H0
  have h1 := fun H0 => RShort_run c 4100 H0
  have r1 := fun H0 => MRun_run vs c st x hv hs hf H0
  have r2 := fun H0 => RRun_run vs c st x hv hs hf H0
  have r3 := fun H0 => MSteps_run vs c st x hv hs hf H0
  have r4 := fun H0 => RSteps_run vs c st x hv hs hf H0
  have r5 := fun H0 => Ints_run (runL (refRunS vs c st x)) (runL (refRunS vs c st x)) (by have := refRun_len vs c st x; omega) H0
  rw [beq_self_eq_true] at r5
  (refine ARun.intro Tryd.func3 rfl Tryd.call3 Tryd.ntmps3 Tryd.results3 ?_; simp only [List.length_cons, List.length_nil, List.length_map, Nat.reduceAdd, Nat.reduceSub, List.replicate_succ, List.replicate_zero, List.cons_append, List.nil_append])
  (have ww1 := h0; have cc1 := fun z1 => h0 z1; have cc2 := fun z1 => h1 z1; have cc3 := fun z1 => r1 z1; have cc4 := fun z1 => r2 z1; have cc5 := fun z1 => r3 z1; have cc6 := fun z1 => r4 z1; have cc7 := fun z1 => r5 z1; refine wkO ?_; clear ww1 cc1 cc2 cc3 cc4 cc5 cc6 cc7; (repeat' first | exact True.intro | refine Lf.mk ?_ ?_); all_goals intro hP)
  all_goals ((refine resX ?_; try exact True.intro))
end Go.Proofs.YtimmncjdknlegaaDoor.Y

/- Plain laws: what a run of the stack machine leads to; two handlers put together. -/
set_option linter.unusedVariables false
namespace Go.Proofs.YtimmncjdknlegaaDoor.AL
/-- An instruction at k leads to j. -/
def leads (x : Ins) (k j : Nat) : Prop := (x.op ≠ 13 ∧ j = k + 1) ∨ ((x.op = 12 ∨ x.op = 13) ∧ j = x.n.toNat)
/-- The first i instructions lead to j. -/
def reached (l : List Ins) (i j : Nat) : Prop := j = 0 ∨ ∃ k x, k < i ∧ l[k]? = some x ∧ leads x k j
theorem reached_succ {l : List Ins} {i j : Nat} {x : Ins} (hx : l[i]? = some x) : reached l (i + 1) j ↔ reached l i j ∨ leads x i j := by
  constructor
  · rintro (h | ⟨k, y, h1, h2, h3⟩)
    · exact .inl (.inl h)
    · by_cases hk : k = i
      · subst hk; rw [hx] at h2; cases h2; exact .inr h3
      · exact .inl (.inr ⟨k, y, by omega, h2, h3⟩)
  · rintro ((h | ⟨k, y, h1, h2, h3⟩) | h)
    · exact .inl h
    · exact .inr ⟨k, y, by omega, h2, h3⟩
    · exact .inr ⟨i, x, by omega, hx, h⟩
theorem reached_mono {l : List Ins} {i i' j : Nat} (h : i ≤ i') (hr : reached l i j) : reached l i' j := by
  rcases hr with h1 | ⟨k, y, h1, h2, h3⟩
  · exact .inl h1
  · exact .inr ⟨k, y, by omega, h2, h3⟩
/-- A table of heights as far as they are known. -/
def HTab (hs : List Int) (ht : Nat → Int) (P : Nat → Prop) : Prop := ∀ j, j < hs.length → (P j → hs[j]? = some (ht j)) ∧ (¬ P j → hs[j]? = some (-1))
theorem reachS_tab {hs : List Int} {ht : Nat → Int} {P : Nat → Prop} {a : Nat} {h : Int} (ha : a < hs.length) (hT : HTab hs ht P) (hh : ht a = h) :
    reachS hs a h = some (hs.set a h) ∧ HTab (hs.set a h) ht (fun j => P j ∨ j = a) := by
  obtain ⟨h1, h2⟩ := hT a ha
  have : hs.getD a 0 = -1 ∨ hs.getD a 0 = h := by
    by_cases hp : P a
    · right; rw [List.getD_eq_getElem?_getD, h1 hp, hh]; rfl
    · left; rw [List.getD_eq_getElem?_getD, h2 hp]; rfl
  refine ⟨by rw [reachS_getD ha, if_pos this], fun j hj => ?_⟩
  rw [List.length_set] at hj
  by_cases hja : j = a
  · subst hja
    refine ⟨fun _ => by rw [List.getElem?_set_self hj, hh], fun hn => absurd (.inr rfl) hn⟩
  · obtain ⟨g1, g2⟩ := hT j hj
    rw [List.getElem?_set_ne (Ne.symm hja)]
    exact ⟨fun hp => g1 (hp.resolve_right hja), fun hn => g2 fun hp => hn (.inl hp)⟩
theorem hStep_tab {l : List Ins} {vars : Int} {ht : Nat → Int} {x : Ins} {i : Nat} {hs : List Int} (hc : CertAt l.length vars ht x i) (hx : l[i]? = some x) (hl : hs.length = l.length + 1) (hT : HTab hs ht (reached l i)) (hr : reached l i i) :
    ∃ hs', hStep l.length vars x i hs = some hs' ∧ hs'.length = l.length + 1 ∧ HTab hs' ht (reached l (i + 1)) := by
  have hlt := (List.getElem?_eq_some_iff.1 hx).1
  have hi := (hT i (by omega)).1 hr
  have t1 := takes_nn x.op
  have t2 := puts_nn x.op
  have c1 := hc.tk
  have c2 := hc.pt
  have n1 : ¬ (ht i = -1 ∨ insOk x i l.length vars = false ∨ ht i < takes x.op) := by
    rw [hc.ok]; rintro (h | h | h)
    · omega
    · cases h
    · omega
  have n2 : ¬ 64 < ht i - takes x.op + puts x.op := by omega
  have key : ∀ {hs' : List Int} {P : Nat → Prop}, HTab hs' ht P → (∀ j, P j ↔ reached l (i + 1) j) → HTab hs' ht (reached l (i + 1)) := by
    intro hs' P h hp
    have : P = reached l (i + 1) := funext fun j => propext (hp j)
    rw [← this]; exact h
  by_cases h12 : x.op = 12
  · rw [hStep_12 hi n1 n2 h12]
    have hj := insOk_jump hc.ok (.inl h12)
    obtain ⟨e1, T1⟩ := reachS_tab (a := x.n.toNat) (by omega) hT (hc.jmp (.inl h12))
    obtain ⟨e2, T2⟩ := reachS_tab (a := i + 1) (by rw [List.length_set]; omega) T1 (hc.nxt (by omega))
    rw [e1]
    refine ⟨_, e2, by simpa using hl, key T2 fun j => ?_⟩
    rw [reached_succ hx]
    unfold leads
    constructor
    · rintro ((h | h) | h)
      · exact .inl h
      · exact .inr (.inr ⟨.inl h12, h⟩)
      · exact .inr (.inl ⟨by omega, h⟩)
    · rintro (h | ⟨_, h⟩ | ⟨_, h⟩)
      · exact .inl (.inl h)
      · exact .inr h
      · exact .inl (.inr h)
  · by_cases h13 : x.op = 13
    · rw [hStep_13 hi n1 n2 h13]
      have hj := insOk_jump hc.ok (.inr h13)
      obtain ⟨e1, T1⟩ := reachS_tab (a := x.n.toNat) (by omega) hT (hc.jmp (.inr h13))
      refine ⟨_, e1, by simpa using hl, key T1 fun j => ?_⟩
      rw [reached_succ hx]
      unfold leads
      constructor
      · rintro (h | h)
        · exact .inl h
        · exact .inr (.inr ⟨.inr h13, h⟩)
      · rintro (h | ⟨h, _⟩ | ⟨_, h⟩)
        · exact .inl h
        · exact absurd h13 h
        · exact .inr h
    · rw [hStep_go hi n1 n2 h12 h13]
      obtain ⟨e1, T1⟩ := reachS_tab (a := i + 1) (by omega) hT (hc.nxt h13)
      refine ⟨_, e1, by simpa using hl, key T1 fun j => ?_⟩
      rw [reached_succ hx]
      unfold leads
      constructor
      · rintro (h | h)
        · exact .inl h
        · exact .inr (.inl ⟨h13, h⟩)
      · rintro (h | ⟨_, h⟩ | ⟨h, _⟩)
        · exact .inl h
        · exact .inr h
        · omega
theorem hLoop_of {l : List Ins} {vars : Int} {ht : Nat → Int} (hc : Cert l vars ht) (hr : ∀ i, i ≤ l.length → reached l i i) :
    ∀ (rest : List Ins) (i : Nat) (hs : List Int), l.drop i = rest → i ≤ l.length → hs.length = l.length + 1 → HTab hs ht (reached l i) → hLoop l.length vars rest i hs = true
  | [], i, hs, hd, hi, hl, hT => by
    have hil : i = l.length := by
      have := congrArg List.length hd
      simp at this; omega
    subst hil
    rw [hLoop_nil ((hT _ (by omega)).1 (hr _ (Nat.le_refl _))), hc.last]; rfl
  | x :: rest, i, hs, hd, hi, hl, hT => by
    have hx : l[i]? = some x := by
      have := List.getElem?_drop (xs := l) (i := i) (j := 0)
      rw [hd] at this; simpa using this.symm
    have hlt := (List.getElem?_eq_some_iff.1 hx).1
    obtain ⟨hs', e, hl', hT'⟩ := hStep_tab (hc.at' _ _ hx) hx hl hT (hr i hi)
    rw [hLoop_cons, e]
    refine hLoop_of hc hr rest (i + 1) hs' ?_ hlt hl' hT'
    rw [← List.drop_drop, hd]; rfl
theorem hLoop_reach {l : List Ins} {vars : Int} : ∀ (rest : List Ins) (i : Nat) (hs : List Int), l.drop i = rest → i ≤ l.length → (∀ (j : Nat) (y : Int), hs[j]? = some y → y ≠ -1 → reached l i j) → hLoop l.length vars rest i hs = true →
    ∀ k, i ≤ k → k ≤ l.length → reached l k k
  | [], i, hs, hd, hi, hR, h, k, hk, hkl => by
    have hil : i = l.length := by
      have := congrArg List.length hd
      simp at this; omega
    have : k = i := by omega
    subst this
    unfold hLoop at h
    split at h
    · rename_i y hy
      have h : y = 0 := by simpa using h
      exact hR _ _ hy (by omega)
    · cases h
  | x :: rest, i, hs, hd, hi, hR, h, k, hk, hkl => by
    have hx : l[i]? = some x := by
      have := List.getElem?_drop (xs := l) (i := i) (j := 0)
      rw [hd] at this; simpa using this.symm
    have hlt := (List.getElem?_eq_some_iff.1 hx).1
    rw [hLoop_cons] at h
    cases e : hStep l.length vars x i hs with
    | none => rw [e] at h; cases h
    | some hs' =>
      rw [e] at h
      obtain ⟨y, a1, a2, a3, a4, a5, a6, a7, a8⟩ := hStep_get e
      by_cases hki : k = i
      · subst hki; exact hR _ _ a1 a2
      have inv : ∀ (j : Nat) (z : Int), hs'[j]? = some z → z ≠ -1 → reached l (i + 1) j := by
        intro j z hj hz
        rw [reached_succ hx]
        have back : ∀ {hs1 hs2 : List Int} {a : Nat} {h : Int}, reachS hs1 a h = some hs2 → hs2[j]? = some z → j = a ∨ hs1[j]? = some z := by
          intro hs1 hs2 a h' er hj2
          unfold reachS at er
          split at er
          · cases er
          · split at er
            · simp only [Option.some.injEq] at er; subst er
              by_cases hja : j = a
              · exact .inl hja
              · right; rwa [List.getElem?_set_ne (Ne.symm hja)] at hj2
            · cases er
        have n1 : ¬ (y = -1 ∨ insOk x i l.length vars = false ∨ y < takes x.op) := by
          rw [a3]; rintro (h | h | h)
          · exact a2 h
          · cases h
          · omega
        have n2 : ¬ 64 < y - takes x.op + puts x.op := by omega
        by_cases h12 : x.op = 12
        · rw [hStep_12 a1 n1 n2 h12] at e
          split at e
          · cases e
          · rename_i hs1 e1
            rcases back e hj with hb | hb
            · exact .inr (.inl ⟨by omega, hb⟩)
            · rcases back e1 hb with hb | hb
              · exact .inr (.inr ⟨.inl h12, hb⟩)
              · exact .inl (hR _ _ hb hz)
        · by_cases h13 : x.op = 13
          · rw [hStep_13 a1 n1 n2 h13] at e
            rcases back e hj with hb | hb
            · exact .inr (.inr ⟨.inr h13, hb⟩)
            · exact .inl (hR _ _ hb hz)
          · rw [hStep_go a1 n1 n2 h12 h13] at e
            rcases back e hj with hb | hb
            · exact .inr (.inl ⟨h13, hb⟩)
            · exact .inl (hR _ _ hb hz)
      exact hLoop_reach rest (i + 1) hs' (by rw [← List.drop_drop, hd]; rfl) hlt inv h k (by omega) hkl
theorem verH_iff {l : List Ins} {vars : Int} : verH l vars = true ↔ ∃ ht, Cert l vars ht ∧ ∀ i, i ≤ l.length → reached l i i := by
  constructor
  · intro h
    obtain ⟨ht, hc⟩ := verH_cert h
    refine ⟨ht, hc, ?_⟩
    rw [verH_eq hc.len] at h
    intro i hi
    refine hLoop_reach l 0 _ rfl (Nat.zero_le _) ?_ h i (Nat.zero_le _) hi
    intro j y hj hy
    cases j with
    | zero => exact .inl rfl
    | succ j =>
      simp only [List.getElem?_cons_succ, List.getElem?_replicate] at hj
      split at hj
      · simp at hj; omega
      · cases hj
  · rintro ⟨ht, hc, hr⟩
    rw [verH_eq hc.len]
    refine hLoop_of hc hr l 0 _ rfl (Nat.zero_le _) (by simp) ?_
    intro j hj
    have r0 : reached l 0 j ↔ j = 0 := by
      constructor
      · rintro (h | ⟨k, _, h, _⟩)
        · exact h
        · omega
      · exact .inl
    rw [r0]
    cases j with
    | zero => simp [hc.zero]
    | succ j =>
      simp only [List.length_cons, List.length_replicate] at hj
      simp only [List.getElem?_cons_succ, List.getElem?_replicate]
      refine ⟨by omega, fun _ => by rw [if_pos (by omega)]⟩
/-- The second handler's instructions behind n others. -/
def shI (n : Int) (x : Ins) : Ins := if x.op = 12 ∨ x.op = 13 then ⟨x.op, x.n + n, x.rel⟩ else x
def joinS (a b : List Ins) : List Ins := a ++ b.map (shI a.length)
theorem shI_op (n : Int) (x : Ins) : (shI n x).op = x.op := by unfold shI; split <;> rfl
theorem shI_rel (n : Int) (x : Ins) : (shI n x).rel = x.rel := by unfold shI; split <;> rfl
theorem shI_n {n : Int} {x : Ins} : (shI n x).n = if x.op = 12 ∨ x.op = 13 then x.n + n else x.n := by unfold shI; split <;> rfl
theorem insOk_mono {x : Ins} {i len len' vars : Int} (h : insOk x i len vars = true) (hl : len ≤ len') : insOk x i len' vars = true := by
  unfold insOk at h ⊢
  repeat' split at h
  all_goals simp_all
  all_goals omega
theorem insOk_sh {x : Ins} {i len vars n : Int} (h : insOk x i len vars = true) : insOk (shI n x) (n + i) (n + len) vars = true := by
  unfold shI
  split
  · rename_i ho
    unfold insOk at h ⊢
    rcases ho with ho | ho <;> simp [ho] at h ⊢ <;> omega
  · rename_i ho
    have h1 : x.op ≠ 12 := fun e => ho (.inl e)
    have h2 : x.op ≠ 13 := fun e => ho (.inr e)
    unfold insOk at h ⊢
    simp only [if_neg h1, if_neg h2] at h ⊢
    exact h
theorem joinS_left {a b : List Ins} {i : Nat} (h : i < a.length) : (joinS a b)[i]? = a[i]? := by
  unfold joinS; rw [List.getElem?_append_left h]
theorem joinS_right {a b : List Ins} {i : Nat} : (joinS a b)[a.length + i]? = (b[i]?).map (shI a.length) := by
  unfold joinS; rw [List.getElem?_append_right (by omega), Nat.add_sub_cancel_left, List.getElem?_map]
theorem joinS_len {a b : List Ins} : (joinS a b).length = a.length + b.length := by simp [joinS]
theorem verH_join {a b : List Ins} {vars : Int} (ha : verH a vars = true) (hb : verH b vars = true) (hl : a.length + b.length ≤ 4000) : verH (joinS a b) vars = true := by
  obtain ⟨h1, c1, r1⟩ := verH_iff.1 ha
  obtain ⟨h2, c2, r2⟩ := verH_iff.1 hb
  have hL : ((joinS a b).length : Int) = a.length + b.length := by rw [joinS_len]; omega
  rw [verH_iff]
  refine ⟨fun j => if j ≤ a.length then h1 j else h2 (j - a.length), ⟨by rw [joinS_len]; exact hl, by simp [c1.zero], fun i x hx => ?_, ?_⟩, fun i hi => ?_⟩
  · rcases Nat.lt_or_ge i a.length with hlt | hge
    · rw [joinS_left hlt] at hx
      have hc := c1.at' _ _ hx
      refine ⟨insOk_mono hc.ok (by omega), ?_, ?_, fun h => ?_, fun h => ?_⟩
      · simp only [if_pos (Nat.le_of_lt hlt)]; exact hc.tk
      · simp only [if_pos (Nat.le_of_lt hlt)]; exact hc.pt
      · simp only [if_pos (Nat.le_of_lt hlt), if_pos (show i + 1 ≤ a.length from hlt)]; exact hc.nxt h
      · have hj := insOk_jump hc.ok h
        simp only [if_pos (Nat.le_of_lt hlt), if_pos (show x.n.toNat ≤ a.length by omega)]; exact hc.jmp h
    · obtain ⟨k, rfl⟩ : ∃ k, i = a.length + k := ⟨i - a.length, by omega⟩
      rw [joinS_right, Option.map_eq_some_iff] at hx
      obtain ⟨y, hy, rfl⟩ := hx
      have hc := c2.at' _ _ hy
      have e0 : (if a.length + k ≤ a.length then h1 (a.length + k) else h2 (a.length + k - a.length)) = h2 k := by
        split
        · have : k = 0 := by omega
          subst this; rw [Nat.add_zero, c1.last, c2.zero]
        · rw [Nat.add_sub_cancel_left]
      have e1 : (if a.length + k + 1 ≤ a.length then h1 (a.length + k + 1) else h2 (a.length + k + 1 - a.length)) = h2 (k + 1) := by
        rw [if_neg (by omega)]; congr 1; omega
      refine ⟨?_, ?_, ?_, fun h => ?_, fun h => ?_⟩
      · have := insOk_sh (n := a.length) hc.ok
        rw [hL]
        rwa [show ((a.length + k : Nat) : Int) = (a.length : Int) + k by omega]
      · rw [shI_op]; (try dsimp only); rw [e0]; exact hc.tk
      · rw [shI_op]; (try dsimp only); rw [e0]; exact hc.pt
      · rw [shI_op] at h ⊢; (try dsimp only); rw [e0, e1]; exact hc.nxt h
      · rw [shI_op] at h ⊢; (try dsimp only)
        have hj := insOk_jump hc.ok h
        rw [shI_n, if_pos h, if_neg (by omega), e0]
        rw [show (y.n + (a.length : Int)).toNat - a.length = y.n.toNat by omega]
        exact hc.jmp h
  · (try dsimp only)
    rw [joinS_len]
    split
    · have : b.length = 0 := by omega
      rw [this, Nat.add_zero, c1.last]
    · rw [Nat.add_sub_cancel_left, c2.last]
  · rw [joinS_len] at hi
    have left : ∀ i, i ≤ a.length → ∀ j, reached a i j → reached (joinS a b) i j := by
      rintro i hi j (h | ⟨k, x, q1, q2, q3⟩)
      · exact .inl h
      · exact .inr ⟨k, x, q1, by rw [joinS_left (by omega)]; exact q2, q3⟩
    rcases Nat.lt_or_ge a.length i with hlt | hge
    · obtain ⟨k, rfl⟩ : ∃ k, i = a.length + k := ⟨i - a.length, by omega⟩
      rcases r2 k (by omega) with h | ⟨m, x, q1, q2, q3⟩
      · omega
      · have hj := insOk_jump (c2.at' _ _ q2).ok
        refine .inr ⟨a.length + m, shI a.length x, by omega, by rw [joinS_right, q2]; rfl, ?_⟩
        rcases q3 with ⟨g1, g2⟩ | ⟨g1, g2⟩
        · exact .inl ⟨by rw [shI_op]; exact g1, by omega⟩
        · have := hj g1
          refine .inr ⟨by rw [shI_op]; exact g1, ?_⟩
          rw [shI_n, if_pos g1]; omega
    · exact left i hge i (r1 i hge)
end Go.Proofs.YtimmncjdknlegaaDoor.AL

/- Plain laws: states, parts and handlers of the stack machine. -/
set_option linter.unusedVariables false
namespace Go.Proofs.YtimmncjdknlegaaDoor.AL
section
variable {vs : List Vr} {i0 i1 i2 i3 : Int} {l : List Ins} {ht : Nat → Int}
theorem trace_law {P : Cf → Prop} (hc : Cert l vs.length ht) (hi : ∀ j, isV (inS i0 i1 i2 i3 j))
    (hP : ∀ c c' x, l[c.at']? = some x → CfOk vs c → At vs l.length x c → P c → stepS vs i0 i1 i2 i3 x c = .ok c' → P c') :
    ∀ (f : Nat) (c : Cf) (n : Nat), CfOk vs c → (c.stk.length : Int) = ht c.at' → c.at' ≤ l.length → n ≤ c.at' → P c → l.length < f + c.at' →
      (∀ s, (traceS vs i0 i1 i2 i3 l f c n).1 = .ok s → ∃ c', c'.now = s ∧ CfOk vs c' ∧ P c') ∧ (∀ e, (traceS vs i0 i1 i2 i3 l f c n).1 = .error e → e = 3 ∨ e = 14 ∨ e = 15) ∧
        (traceS vs i0 i1 i2 i3 l f c n).2 ≤ l.length ∧ n ≤ (traceS vs i0 i1 i2 i3 l f c n).2 ∧ ∀ x, l[c.at']? = some x → n + 1 ≤ (traceS vs i0 i1 i2 i3 l f c n).2
  | 0, c, n, h1, h2, h3, h4, h5, h6 => by omega
  | f + 1, c, n, h1, h2, h3, h4, h5, h6 => by
    cases hx : l[c.at']? with
    | none =>
      rw [trace_none hx]
      refine ⟨fun s e => ⟨c, Except.ok.inj e, h1, h5⟩, fun e h => (by cases h), by dsimp only; omega, Nat.le_refl _, fun x h => by cases h⟩
    | some x =>
      have hlt := (List.getElem?_eq_some_iff.1 hx).1
      cases hs : stepS vs i0 i1 i2 i3 x c with
      | error e =>
        rw [trace_err hx hs]
        refine ⟨fun s h => (by cases h), fun e' h => ?_, by dsimp only; omega, by dsimp only; omega, fun _ _ => Nat.le_refl _⟩
        obtain rfl : e = e' := by simpa using h
        exact stepS_err hs (cert_At hc hx h2)
      | ok c' =>
        rw [trace_ok hx hs]
        obtain ⟨a1, a2, a3, a4⟩ := stepS_cert hc hx h1 h2 hi hs
        obtain ⟨b1, b2, b3, b4, b5⟩ := trace_law hc hi hP f c' (n + 1) a1 a2 a4 (by omega) (hP c c' x hx h1 (cert_At hc hx h2) h5 hs) (by omega)
        exact ⟨b1, b2, b3, by omega, fun _ _ => b4⟩
theorem stOk_set : ∀ {vs : List Vr} {st : List Int} {k : Nat} {v : Vr} {n : Int}, stOk vs st = true → vs[k]? = some v → isV n → v.low ≤ n → n ≤ v.high → stOk vs (st.set k n) = true
  | v :: vs, m :: ns, 0, _, _, h, hv, h1, h2, h3 => by
    simp only [stOk, Bool.and_eq_true, decide_eq_true_eq] at h
    simp only [List.getElem?_cons_zero, Option.some.injEq] at hv
    subst hv
    simp only [List.set_cons_zero, stOk, Bool.and_eq_true, decide_eq_true_eq]
    exact ⟨⟨h1.1, h1.2, h2, h3⟩, h.2⟩
  | v :: vs, m :: ns, k + 1, _, _, h, hv, h1, h2, h3 => by
    simp only [stOk, Bool.and_eq_true, decide_eq_true_eq] at h
    simp only [List.getElem?_cons_succ] at hv
    simp only [List.set_cons_succ, stOk, Bool.and_eq_true, decide_eq_true_eq]
    exact ⟨h.1, stOk_set h.2 hv h1 h2 h3⟩
  | [], [], k, _, _, _, hv, _, _, _ => by simp at hv
  | [], _ :: _, k, _, _, h, _, _, _, _ => by simp [stOk] at h
  | _ :: _, [], k, _, _, h, _, _, _, _ => by simp [stOk] at h
/-- Is a variable stored? -/
def storedS (l : List Ins) (i : Nat) : Prop := ∃ x ∈ l, x.op = 11 ∧ x.n = i
theorem stepS_state {st : List Int} {c c' : Cf} {x : Ins} (hx : x ∈ l) (hk : CfOk vs c) (ha : At vs l.length x c) (h1 : stOk vs c.now = true) (h2 : ∀ i, ¬ storedS l i → c.now[i]? = st[i]?) (hs : stepS vs i0 i1 i2 i3 x c = .ok c') :
    stOk vs c'.now = true ∧ ∀ i, ¬ storedS l i → c'.now[i]? = st[i]? := by
  have hok := ha.ok
  have htk := ha.tk
  unfold stepS at hs
  repeat' split at hs
  all_goals first | (cases hs; done) | (cases hs; exact ⟨h1, h2⟩) | skip
  rename_i q1 q2 q3 q11 _ vr hv hb
  cases hs
  have htk' : 1 ≤ c.stk.length := by simp [takes, q11] at htk; omega
  have hm := hk.stkV _ (getD_mem (l := c.stk) (k := c.stk.length - 1) (by omega))
  refine ⟨stOk_set h1 hv hm hb.1 hb.2, fun i hi => ?_⟩
  dsimp only
  rw [List.getElem?_set_ne]
  · exact h2 i hi
  · intro e
    have hn : 0 ≤ x.n := by unfold insOk at hok; simp [q11] at hok; omega
    exact hi ⟨x, hx, q11, by omega⟩
theorem run_states {vs : List Vr} {c : Cod} {st : List Int} {x : Cal} (h : fitsS vs c st x = true) :
    (∀ s, (runS vs c st x).1 = .ok s → stOk vs s = true ∧ ∀ i, ¬ storedS (hand c x.ev) i → s[i]? = st[i]?) ∧ (∀ e, (runS vs c st x).1 = .error e → e = 3 ∨ e = 14 ∨ e = 15) ∧
      (runS vs c st x).2 ≤ (hand c x.ev).length ∧ (1 ≤ (runS vs c st x).2 ∨ (hand c x.ev).length = 0) := by
  obtain ⟨f1, f2, f3⟩ := fits_all h
  obtain ⟨e1, e2⟩ := call_ev f3
  obtain ⟨ht, hc⟩ := verH_cert (hand_ver f1 e1 e2)
  obtain ⟨b1, b2, b3, b4, b5⟩ := trace_law (P := fun c' => stOk vs c'.now = true ∧ ∀ i, ¬ storedS (hand c x.ev) i → c'.now[i]? = st[i]?) hc (call_in f3)
    (fun c1 c2 y hy hk ha hp hs => stepS_state (List.mem_of_getElem? hy) hk ha hp.1 hp.2 hs) ((hand c x.ev).length + 1) ⟨st, [], 0⟩ 0 ⟨stOk_len f2, stOk_isV f2, fun _ h => by cases h⟩ (by simp [hc.zero]) (Nat.zero_le _) (Nat.le_refl _) ⟨f2, fun _ _ => rfl⟩ (by simp)
  refine ⟨fun s hs => ?_, b2, b3, ?_⟩
  · obtain ⟨c', rfl, _, q⟩ := b1 s hs
    exact q
  · cases hl : (hand c x.ev)[0]? with
    | none => right; simpa using hl
    | some y => left; exact b5 y hl
theorem trace_fuel (hc : Cert l vs.length ht) (hi : ∀ j, isV (inS i0 i1 i2 i3 j)) : ∀ (f g : Nat) (c : Cf) (n : Nat), CfOk vs c → (c.stk.length : Int) = ht c.at' → c.at' ≤ l.length → l.length < f + c.at' → l.length < g + c.at' →
    traceS vs i0 i1 i2 i3 l f c n = traceS vs i0 i1 i2 i3 l g c n
  | 0, g, c, n, h1, h2, h3, h4, h5 => by omega
  | f + 1, 0, c, n, h1, h2, h3, h4, h5 => by omega
  | f + 1, g + 1, c, n, h1, h2, h3, h4, h5 => by
    cases hx : l[c.at']? with
    | none => rw [trace_none hx, trace_none hx]
    | some x =>
      cases hs : stepS vs i0 i1 i2 i3 x c with
      | error e => rw [trace_err hx hs, trace_err hx hs]
      | ok c' =>
        rw [trace_ok hx hs, trace_ok hx hs]
        obtain ⟨a1, a2, a3, a4⟩ := stepS_cert hc hx h1 h2 hi hs
        exact trace_fuel hc hi f g c' (n + 1) a1 a2 a4 (by omega) (by omega)
theorem stepS_sh {k : Nat} {x : Ins} {c : Cf} (hn : x.op = 12 ∨ x.op = 13 → 0 ≤ x.n) :
    stepS vs i0 i1 i2 i3 (shI k x) ⟨c.now, c.stk, k + c.at'⟩ = match stepS vs i0 i1 i2 i3 x c with
      | .ok c' => .ok ⟨c'.now, c'.stk, k + c'.at'⟩
      | .error e => .error e := by
  have ho : (shI k x).op = x.op := shI_op _ _
  have hr : (shI k x).rel = x.rel := shI_rel _ _
  unfold stepS
  rw [ho, hr]
  by_cases h1 : x.op = 1
  · simp only [if_pos h1, shI_n, if_neg (show ¬ (x.op = 12 ∨ x.op = 13) by omega), Nat.add_assoc]
  by_cases h2 : x.op = 2
  · simp only [if_neg h1, if_pos h2, shI_n, if_neg (show ¬ (x.op = 12 ∨ x.op = 13) by omega), Nat.add_assoc]
  by_cases h3 : x.op = 3
  · simp only [if_neg h1, if_neg h2, if_pos h3, shI_n, if_neg (show ¬ (x.op = 12 ∨ x.op = 13) by omega), Nat.add_assoc]
  by_cases h11 : x.op = 11
  · simp only [if_neg h1, if_neg h2, if_neg h3, if_pos h11, shI_n, if_neg (show ¬ (x.op = 12 ∨ x.op = 13) by omega)]
    cases vs[x.n.toNat]? with
    | none => rfl
    | some v => dsimp only; split <;> simp [Nat.add_assoc]
  by_cases h12 : x.op = 12
  · have := hn (.inl h12)
    simp only [if_neg h1, if_neg h2, if_neg h3, if_neg h11, if_pos h12, shI_n, if_pos (show (x.op = 12 ∨ x.op = 13) from .inl h12)]
    congr 2
    split <;> omega
  by_cases h13 : x.op = 13
  · have := hn (.inr h13)
    simp only [if_neg h1, if_neg h2, if_neg h3, if_neg h11, if_neg h12, if_pos h13, shI_n, if_pos (show (x.op = 12 ∨ x.op = 13) from .inr h13)]
    congr 2
    omega
  · simp only [if_neg h1, if_neg h2, if_neg h3, if_neg h11, if_neg h12, if_neg h13]
    cases calcS x.op (c.stk.getD (c.stk.length - 2) 0) (c.stk.getD (c.stk.length - 1) 0) with
    | ok v => simp [Nat.add_assoc]
    | error e => rfl
theorem trace_right {a b : List Ins} (hn : ∀ x ∈ b, x.op = 12 ∨ x.op = 13 → 0 ≤ x.n) (m : Nat) : ∀ (f : Nat) (c : Cf) (n : Nat),
    traceS vs i0 i1 i2 i3 (joinS a b) f ⟨c.now, c.stk, a.length + c.at'⟩ (m + n) = ((traceS vs i0 i1 i2 i3 b f c n).1, m + (traceS vs i0 i1 i2 i3 b f c n).2)
  | 0, c, n => rfl
  | f + 1, c, n => by
    cases hx : b[c.at']? with
    | none => rw [trace_none hx, trace_none (by dsimp only; rw [joinS_right, hx]; rfl)]
    | some x =>
      have hx' : (joinS a b)[a.length + c.at']? = some (shI a.length x) := by rw [joinS_right, hx]; rfl
      have hs' := stepS_sh (vs := vs) (i0 := i0) (i1 := i1) (i2 := i2) (i3 := i3) (k := a.length) (c := c) (hn x (List.mem_of_getElem? hx))
      cases hs : stepS vs i0 i1 i2 i3 x c with
      | error e =>
        rw [hs] at hs'
        rw [trace_err hx hs, trace_err hx' hs']; rfl
      | ok c' =>
        rw [hs] at hs'
        rw [trace_ok hx hs, trace_ok hx' hs']
        exact trace_right hn m f c' (n + 1)
theorem trace_left {a b : List Ins} {hta htb : Nat → Int} (hca : Cert a vs.length hta) (hcb : Cert b vs.length htb) (hi : ∀ j, isV (inS i0 i1 i2 i3 j)) (hn : ∀ x ∈ b, x.op = 12 ∨ x.op = 13 → 0 ≤ x.n) :
    ∀ (fa f : Nat) (c : Cf) (n : Nat), CfOk vs c → (c.stk.length : Int) = hta c.at' → c.at' ≤ a.length → a.length < fa + c.at' → a.length + b.length < f + c.at' →
      (∀ e, (traceS vs i0 i1 i2 i3 a fa c n).1 = .error e → traceS vs i0 i1 i2 i3 (joinS a b) f c n = traceS vs i0 i1 i2 i3 a fa c n) ∧
        ∀ s, (traceS vs i0 i1 i2 i3 a fa c n).1 = .ok s → traceS vs i0 i1 i2 i3 (joinS a b) f c n = ((traceS vs i0 i1 i2 i3 b (b.length + 1) ⟨s, [], 0⟩ 0).1, (traceS vs i0 i1 i2 i3 a fa c n).2 + (traceS vs i0 i1 i2 i3 b (b.length + 1) ⟨s, [], 0⟩ 0).2)
  | 0, f, c, n, h1, h2, h3, h4, h5 => by omega
  | fa + 1, 0, c, n, h1, h2, h3, h4, h5 => by omega
  | fa + 1, f + 1, c, n, h1, h2, h3, h4, h5 => by
    cases hx : a[c.at']? with
    | none =>
      have he : c.at' = a.length := by
        have := List.getElem?_eq_none_iff.1 hx; omega
      have hs0 : c.stk = [] := by
        rw [he, hca.last] at h2
        exact List.eq_nil_of_length_eq_zero (by omega)
      rw [trace_none hx]
      refine ⟨fun e h => (by cases h), fun s h => ?_⟩
      obtain rfl : c.now = s := by simpa using h
      have hr := trace_right (vs := vs) (i0 := i0) (i1 := i1) (i2 := i2) (i3 := i3) (a := a) hn n (f + 1) ⟨c.now, [], 0⟩ 0
      have hc' : c = ⟨c.now, [], a.length⟩ := by cases c; simp only at he hs0; simp [he, hs0]
      simp only [Nat.add_zero] at hr
      rw [← hc'] at hr
      rw [hr, trace_fuel hcb hi (f + 1) (b.length + 1) ⟨c.now, [], 0⟩ 0 ⟨h1.now, h1.nowV, fun _ h => by cases h⟩ (by simp [hcb.zero]) (Nat.zero_le _) (by dsimp only; omega) (by dsimp only; omega)]
    | some x =>
      have hlt := (List.getElem?_eq_some_iff.1 hx).1
      have hx' : (joinS a b)[c.at']? = some x := by rw [joinS_left hlt]; exact hx
      cases hs : stepS vs i0 i1 i2 i3 x c with
      | error e =>
        rw [trace_err hx hs, trace_err hx' hs]
        exact ⟨fun _ _ => rfl, fun s h => by cases h⟩
      | ok c' =>
        rw [trace_ok hx hs, trace_ok hx' hs]
        obtain ⟨a1, a2, a3, a4⟩ := stepS_cert hca hx h1 h2 hi hs
        exact trace_left hca hcb hi hn fa f c' (n + 1) a1 a2 a4 (by omega) (by omega)
end
/-- Code with another handler. -/
def setHand (c : Cod) (ev : Int) (l : List Ins) : Cod := if ev = 0 then { c with c0 := l } else if ev = 1 then { c with c1 := l } else if ev = 2 then { c with c2 := l } else if ev = 3 then { c with c3 := l } else { c with c4 := l }
theorem hand_set {c : Cod} {ev : Int} {l : List Ins} : hand (setHand c ev l) ev = l := by
  unfold hand setHand
  by_cases h0 : ev = 0
  · simp [h0]
  by_cases h1 : ev = 1
  · simp [h1]
  by_cases h2 : ev = 2
  · simp [h2]
  by_cases h3 : ev = 3
  · simp [h3]
  · simp [h0, h1, h2, h3]
theorem verC_set {c : Cod} {ev vars : Int} {l : List Ins} (h : verC c vars = true) (hl : verH l vars = true) : verC (setHand c ev l) vars = true := by
  unfold verC at h ⊢
  simp only [Bool.and_eq_true, decide_eq_true_eq] at h
  obtain ⟨h', h0, h1, h2, h3, h4⟩ := h
  unfold setHand
  repeat' split
  all_goals simp only [Bool.and_eq_true, decide_eq_true_eq]
  all_goals exact ⟨h', by assumption, by assumption, by assumption, by assumption, by assumption⟩
def c0Cod : Cod := ⟨[], [], [], [], []⟩
theorem verH_nil (vars : Int) : verH [] vars = true := by simp [verH, hLoop]
theorem verC_nil {vars : Int} (h : 0 ≤ vars ∧ vars ≤ 12) : verC c0Cod vars = true := by
  unfold verC c0Cod
  simp only [verH_nil, Bool.and_true, decide_eq_true_eq]
  exact h
theorem run_parts {vs : List Vr} {c d : Cod} {st : List Int} {x : Cal} (h : fitsS vs c st x = true) (hd : verC d vs.length = true) (hl : (hand c x.ev).length + (hand d x.ev).length ≤ 4000) :
    fitsS vs (setHand c x.ev (joinS (hand c x.ev) (hand d x.ev))) st x = true ∧
      (∀ e, (runS vs c st x).1 = .error e → runS vs (setHand c x.ev (joinS (hand c x.ev) (hand d x.ev))) st x = runS vs c st x) ∧
      (∀ s, (runS vs c st x).1 = .ok s → fitsS vs d s x = true ∧ runS vs (setHand c x.ev (joinS (hand c x.ev) (hand d x.ev))) st x = ((runS vs d s x).1, (runS vs c st x).2 + (runS vs d s x).2)) := by
  obtain ⟨f1, f2, f3⟩ := fits_all h
  obtain ⟨e1, e2⟩ := call_ev f3
  have va := hand_ver f1 e1 e2
  have vb := hand_ver hd e1 e2
  obtain ⟨hta, hca⟩ := verH_cert va
  obtain ⟨htb, hcb⟩ := verH_cert vb
  have hn : ∀ y ∈ hand d x.ev, y.op = 12 ∨ y.op = 13 → 0 ≤ y.n := by
    intro y hy ho
    obtain ⟨i, hi⟩ := List.getElem?_of_mem hy
    have := insOk_jump (hcb.at' _ _ hi).ok ho
    omega
  have ⟨t1, t2⟩ := trace_left hca hcb (call_in f3) hn ((hand c x.ev).length + 1) ((joinS (hand c x.ev) (hand d x.ev)).length + 1) ⟨st, [], 0⟩ 0 ⟨stOk_len f2, stOk_isV f2, fun _ h => by cases h⟩ (by simp [hca.zero]) (Nat.zero_le _) (by simp) (by rw [joinS_len]; simp)
  refine ⟨?_, fun e he => ?_, fun s hs => ⟨?_, ?_⟩⟩
  · simp only [fitsS, verC_set f1 (verH_join va vb hl), f2, f3, Bool.and_self]
  · unfold runS at he ⊢
    rw [hand_set]
    exact t1 e he
  · simp only [fitsS, hd, ((run_states h).1 s hs).1, f3, Bool.and_self]
  · unfold runS at hs ⊢
    rw [hand_set]
    exact t2 s hs
theorem run_alone {vs : List Vr} {c : Cod} {st : List Int} {x : Cal} (h : fitsS vs c st x = true) :
    fitsS vs (setHand c0Cod x.ev (hand c x.ev)) st x = true ∧ runS vs (setHand c0Cod x.ev (hand c x.ev)) st x = runS vs c st x := by
  obtain ⟨f1, f2, f3⟩ := fits_all h
  obtain ⟨e1, e2⟩ := call_ev f3
  refine ⟨?_, ?_⟩
  · simp only [fitsS, verC_set (verC_nil (verC_vars f1)) (hand_ver f1 e1 e2), f2, f3, Bool.and_self]
  · unfold runS; rw [hand_set]
end Go.Proofs.YtimmncjdknlegaaDoor.AL

set_option maxHeartbeats 8000000
set_option maxRecDepth 100000
set_option linter.unusedVariables false
set_option linter.unusedSimpArgs false
set_option linter.unusedSectionVars false
namespace Go.Proofs.YtimmncjdknlegaaDoor.Y
open Go.Proofs.YtimmncjdknlegaaDoor.AL Go.Proofs Go
attribute [local irreducible] AWP AWL AWG AWR AWE AWX AWO AWSeq AWSG AWSR AWSO AWSE AWSF GoodP OGW OGR OGE OGX PGW PGR PGE Wk AWLoop AWPD AWLD
theorem dr6_6_X12a : Drawn Tryd.prog 6 (regOps 6 ((Tryd.f6.body).getD .skip)) [9] [] [.win [0], .win [0], .win [0], .win [0], .win [0], .win [0], .win [0], .win [0], .win [0], .eff 0] 1 [] := ⟨rfl, by as_aux_lemma => kernel_rfl⟩

/-- What 'fits' of the laws says. -/
def lfitS (vs : List Vr) (c : Cod) (st : List Int) (x : Cal) : Bool := shortS c 4000 && (decide ((vs.length : Int) ≤ 30) && (decide ((st.length : Int) ≤ 30) && fitsS vs c st x))
theorem lfits_run (vs : List Vr) (c : Cod) (st : List Int) (x : Cal) (hv : vs.length ≤ 2000000) (hs : st.length ≤ 2000000) (hf : CodFine c) (H0 : List AObj) :
    ARun Tryd.prog 14 [.rs 5 (vs.map encV), agC c, .rs 1 (rI st), agL x] H0 (.ret (.b (lfitS vs c st x)) H0) := by
  have h1 := fun H0 => RShort_run c 4000 H0
  have h2 := fun H0 => RFits_run vs c st x hv hs hf H0
  (refine ARun.intro Tryd.func14 rfl Tryd.call14 Tryd.ntmps14 Tryd.results14 ?_; simp only [List.length_cons, List.length_nil, List.length_map, Nat.reduceAdd, Nat.reduceSub, List.replicate_succ, List.replicate_zero, List.cons_append, List.nil_append])
  (have cc1 := fun z1 => h1 z1; have cc2 := fun z1 => h2 z1; refine wkO ?_; clear cc1 cc2; (repeat' first | exact True.intro | refine Lf.mk ?_ ?_); all_goals intro hP)
  all_goals clear h1 h2
  all_goals ((refine resX ?_; try exact True.intro); simp_all [lfitS] <;> (intros; omega))
theorem lfit_all {vs : List Vr} {c : Cod} {st : List Int} {x : Cal} (h : lfitS vs c st x = true) : shortS c 4000 = true ∧ vs.length ≤ 30 ∧ st.length ≤ 30 ∧ fitsS vs c st x = true := by
  unfold lfitS at h
  simp only [Bool.and_eq_true, decide_eq_true_eq] at h
  exact ⟨h.1, by omega, by omega, h.2.2.2⟩
theorem MAlone_run (vs : List Vr) (c : Cod) (st : List Int) (x : Cal) (hf : CodFine c) (hv : vs.length ≤ 2000000) (hs : st.length ≤ 2000000) (H0 : List AObj) :
    ARun Tryd.prog 6 [.rs 5 (vs.map encV), agC c, .rs 1 (rI st), agL x] H0 (.ret (.b true) H0) := by
  have h0 := fun H0 => head_run H0
  have h1 := fun H0 => lfits_run vs c st x hv hs hf H0
  cases hfit : lfitS vs c st x with
  | false =>
    simp only [hfit] at h1
    (refine ARun.intro Tryd.func6 rfl Tryd.call6 Tryd.ntmps6 Tryd.results6 ?_; simp only [List.length_cons, List.length_nil, List.length_map, Nat.reduceAdd, Nat.reduceSub, List.replicate_succ, List.replicate_zero, List.cons_append, List.nil_append])
    (have rr1 := dr6_6_X12a; have cc1 := fun z1 => h0 z1; have cc2 := fun z1 => h1 z1; refine wkO ?_; clear rr1 cc1 cc2; (repeat' first | exact True.intro | refine Lf.mk ?_ ?_); all_goals intro hP)
    all_goals ((refine resX ?_; try exact True.intro))
  | true =>
    obtain ⟨f1, f2, f3, f4⟩ := lfit_all hfit
    obtain ⟨g1, g2⟩ := run_alone f4
    have hev := call_ev (fits_all f4).2.2
    simp only [hfit] at h1
    have r1 := fun H0 => MRun_run vs c st x hv hs hf H0
    have hg := hand_get (c := c) hev
    have e1 : refRunS vs (setHand c0Cod x.ev (hand c x.ev)) st x = refRunS vs c st x := by simp only [refRunS, f4, g1, g2, if_true]
    have hf2 : CodFine (setHand c0Cod x.ev (hand c x.ev)) := by
      obtain ⟨a0, a1, a2, a3, a4⟩ := hf
      unfold setHand hand c0Cod
      repeat' split
      all_goals (refine ⟨?_, ?_, ?_, ?_, ?_⟩ <;> first | assumption | simp)
    have r2 := fun H0 => MRun_run vs (setHand c0Cod x.ev (hand c x.ev)) st x hv hs hf2 H0
    rw [e1] at r2
    have r5 := fun H0 => Ints_run (runL (refRunS vs c st x)) (runL (refRunS vs c st x)) (by have := refRun_len vs c st x; omega) H0
    rw [beq_self_eq_true] at r5
    obtain ⟨ev, i0, i1, i2, i3⟩ := x
    simp only at *
    have : ev = 0 ∨ ev = 1 ∨ ev = 2 ∨ ev = 3 ∨ ev = 4 := by omega
    rcases this with rfl | rfl | rfl | rfl | rfl
    all_goals simp only [setHand, hand, c0Cod, Int.reduceEq, if_true, if_false, Int.reduceToNat] at r2 hg
    all_goals (refine ARun.intro Tryd.func6 rfl Tryd.call6 Tryd.ntmps6 Tryd.results6 ?_; simp only [List.length_cons, List.length_nil, List.length_map, Nat.reduceAdd, Nat.reduceSub, List.replicate_succ, List.replicate_zero, List.cons_append, List.nil_append])
    all_goals
      repeat' (first | refine awp_seq ?_ | refine awp_block ?_ | refine awp_scope ?_ | ((first | refine awp_region_k fun Kn Kp hn hp => ?_ | show AWP _ _ (Code.region 6 _ true) _ _ _; refine awp_drawn_k (id := 6) [9] [] [.win [0], .win [0], .win [0], .win [0], .win [0], .win [0], .win [0], .win [0], .win [0], .eff 0] 1 rfl (by as_aux_lemma => kernel_rfl) fun Kn Kp hn hp => ?_ | refine oge_intro (by assumption) ?_ | (show AWE _ _ _ _ _ _ _ _ _; first | refine awe_intro (h0 _) ?_ | refine awe_intro (h1 _) ?_ | refine awe_intro (r1 _) ?_ | refine awe_intro (r5 _) ?_) | (show AWSF _ _ _ _ _ _ _ _ _ _ _; first | refine awsf_intro (h0 _) (fun hrun => ?_) | refine awsf_intro (h1 _) (fun hrun => ?_) | refine awsf_intro (r1 _) (fun hrun => ?_) | refine awsf_intro (r5 _) (fun hrun => ?_)) | (show OGE _ _ _ _ _ _ _; first | refine oge_intro (h0 _) ?_ | refine oge_intro (h1 _) ?_ | refine oge_intro (r1 _) ?_ | refine oge_intro (r5 _) ?_) | (show AWSE _ _ _ _ _ _ _ _ _ _ _; first | refine awse_intro (h0 _) (fun hrun => ?_) | refine awse_intro (h1 _) (fun hrun => ?_) | refine awse_intro (r1 _) (fun hrun => ?_) | refine awse_intro (r5 _) (fun hrun => ?_)) | (show PGE _ _ _ _ _; first | refine pge_intro (h0 _) (fun tm' => ?_) | refine pge_intro (h1 _) (fun tm' => ?_) | refine pge_intro (r1 _) (fun tm' => ?_) | refine pge_intro (r5 _) (fun tm' => ?_))) <;> (simp only [go_sem, Nat.reduceAdd, Nat.reduceSub, Nat.reduceMul, Nat.reduceLeDiff, Nat.reduceLT, Nat.reduceEqDiff, Int.reduceToNat, Int.reduceAdd, Int.reduceMul, Int.reduceSub, Int.reduceLT, Int.reduceLE, Int.reduceEq, Int.reduceNeg, Int.reduceBEq, Int.reduceBNe, ↓reduceIte, reduceCtorEq, beq_self_eq_true] <;> try simp (disch := omega) only [wrap_of])) | (refine hn _ _ ?_; clear hn hp Kn Kp) | (refine hp _ _ _ ?_; clear hn hp Kn Kp) | (simp (disch := omega) only [getSkip16, setSkip16, getAt1, setAt1, getAt2, setAt2, getAt3, setAt3, getAt4, setAt4, getAt5, setAt5, getAt6, setAt6, getAt7, setAt7, getAt8, setAt8, getAt9, setAt9, getAt10, setAt10, getAt11, setAt11, getAt12, setAt12, getAt13, setAt13, getAt14, setAt14, getAt15, setAt15, go_sem, Nat.reduceAdd, Nat.reduceSub, Nat.reduceMul, Nat.reduceLeDiff, Nat.reduceLT, Nat.reduceEqDiff, Int.reduceToNat, Int.reduceAdd, Int.reduceMul, Int.reduceSub, Int.reduceLT, Int.reduceLE, Int.reduceEq, Int.reduceNeg, Int.reduceBEq, Int.reduceBNe, ↓reduceIte, reduceCtorEq, beq_self_eq_true, if_pos, if_neg, decide_pos', decide_neg', beq_pos', beq_neg', bne_pos', bne_neg', getE, wrap_of]) | (refine awp_cond_t rfl (by first | with_reducible rfl | (simp only [Bool.and_eq_true, Bool.or_eq_true, Bool.and_eq_false_iff, Bool.or_eq_false_iff, decide_eq_true_eq, decide_eq_false_iff_not, beq_iff_eq, bne_iff_ne, bne_eq_false_iff_eq, beq_eq_false_iff_ne, ne_eq, Bool.not_eq_true', Bool.not_eq_false', not_true_eq_false, not_false_eq_true]; omega)) ?_) | (refine awp_cond_f rfl (by first | with_reducible rfl | (simp only [Bool.and_eq_true, Bool.or_eq_true, Bool.and_eq_false_iff, Bool.or_eq_false_iff, decide_eq_true_eq, decide_eq_false_iff_not, beq_iff_eq, bne_iff_ne, bne_eq_false_iff_eq, beq_eq_false_iff_ne, ne_eq, Bool.not_eq_true', Bool.not_eq_false', not_true_eq_false, not_false_eq_true]; omega)) ?_) | (refine awp_cond rfl (fun hb => ?_) (fun hb => ?_) <;> (try simp only [decide_eq_true_eq, decide_eq_false_iff_not, Bool.not_eq_true', Bool.not_eq_false', Bool.true_eq_false, Bool.false_eq_true, beq_iff_eq, bne_iff_ne, Bool.or_eq_true, Bool.and_eq_true, Bool.or_eq_false_iff, Bool.and_eq_false_iff, bne_eq_false_iff_eq, beq_eq_false_iff_ne, gt_iff_lt, ge_iff_le, Int.reduceEq, Int.reduceNe, Int.reduceLT, Int.reduceLE, ne_eq, not_true_eq_false, not_false_eq_true] at hb)) | ((first | refine awg_split (fun hb => ?_) (fun hb => ?_) | refine awsg_split (fun hb => ?_) (fun hb => ?_)) <;> have hb0 := hb <;> (try simp only [decide_eq_true_eq, decide_eq_false_iff_not, Bool.not_eq_true', Bool.not_eq_false', Bool.true_eq_false, Bool.false_eq_true, beq_iff_eq, bne_iff_ne, Bool.or_eq_true, Bool.and_eq_true, Bool.or_eq_false_iff, Bool.and_eq_false_iff, bne_eq_false_iff_eq, beq_eq_false_iff_ne, gt_iff_lt, ge_iff_le, Int.reduceEq, Int.reduceNe, Int.reduceLT, Int.reduceLE, ne_eq, not_true_eq_false, not_false_eq_true] at hb0) <;> (try simp only [beq_true, beq_false, Bool.not_eq_true', Bool.not_eq_false'] at hb) <;> (simp only [go_sem, Nat.reduceAdd, Nat.reduceSub, Nat.reduceMul, Nat.reduceLeDiff, Nat.reduceLT, Nat.reduceEqDiff, Int.reduceToNat, Int.reduceAdd, Int.reduceMul, Int.reduceSub, Int.reduceLT, Int.reduceLE, Int.reduceEq, Int.reduceNeg, Int.reduceBEq, Int.reduceBNe, ↓reduceIte, reduceCtorEq, beq_self_eq_true, hb, hb0] <;> try simp (disch := omega) only [wrap_of])) | (refine And.intro ?_ ?_) | ((show AWE _ _ _ _ _ _ _ _ _; refine awe_intro (ARun.giveK 3 2 (by simp) (r2 _) ?_) ?_); (· simp only [List.map_cons, List.map_nil, AV.low, AV.toPV, AV.toPVs, AV.toPVr, getO0, getOk, getS0, getSk, List.getElem?_cons_zero, List.getElem?_cons_succ, Nat.not_lt_zero, if_false, if_true, List.length_cons, List.length_nil, Nat.zero_le, and_self, and_true, true_and, List.drop_zero, List.take_succ_cons, List.take_zero, List.take_nil, Option.map_some, Nat.zero_add, Nat.add_lt_add_iff_left, Nat.reduceLT, Nat.lt_irrefl, Nat.add_le_add_iff_left, Nat.reduceLeDiff, Nat.le_refl, Nat.le_add_right, Nat.add_zero, Nat.lt_add_right_iff_pos, not_lt_k]; repeat' (first | exact trivial | exact Cv.refl _ | exact Cv.nil (Nat.succ_pos _) | exact PCv.refl _ | exact PCv.nil (Nat.succ_pos _) | refine And.intro ?_ ?_ | refine Cv.agg ?_ | refine Cv.pv (PCv.rs ?_) | refine PCv.rs ?_)); (simp only [go_sem, Nat.reduceAdd, Nat.reduceSub, Nat.reduceMul, Nat.reduceLeDiff, Nat.reduceLT, Nat.reduceEqDiff, Int.reduceToNat, Int.reduceAdd, Int.reduceMul, Int.reduceSub, Int.reduceLT, Int.reduceLE, Int.reduceEq, Int.reduceNeg, Int.reduceBEq, Int.reduceBNe, ↓reduceIte, reduceCtorEq, beq_self_eq_true] <;> try simp (disch := omega) only [wrap_of])) | ((show AWSE _ _ _ _ _ _ _ _ _ _ _; refine awse_intro (ARun.giveK 3 2 (by simp) (r2 _) ?_) (fun hrun => ?_)); (· simp only [List.map_cons, List.map_nil, AV.low, AV.toPV, AV.toPVs, AV.toPVr, getO0, getOk, getS0, getSk, List.getElem?_cons_zero, List.getElem?_cons_succ, Nat.not_lt_zero, if_false, if_true, List.length_cons, List.length_nil, Nat.zero_le, and_self, and_true, true_and, List.drop_zero, List.take_succ_cons, List.take_zero, List.take_nil, Option.map_some, Nat.zero_add, Nat.add_lt_add_iff_left, Nat.reduceLT, Nat.lt_irrefl, Nat.add_le_add_iff_left, Nat.reduceLeDiff, Nat.le_refl, Nat.le_add_right, Nat.add_zero, Nat.lt_add_right_iff_pos, not_lt_k]; repeat' (first | exact trivial | exact Cv.refl _ | exact Cv.nil (Nat.succ_pos _) | exact PCv.refl _ | exact PCv.nil (Nat.succ_pos _) | refine And.intro ?_ ?_ | refine Cv.agg ?_ | refine Cv.pv (PCv.rs ?_) | refine PCv.rs ?_)); (simp only [go_sem, Nat.reduceAdd, Nat.reduceSub, Nat.reduceMul, Nat.reduceLeDiff, Nat.reduceLT, Nat.reduceEqDiff, Int.reduceToNat, Int.reduceAdd, Int.reduceMul, Int.reduceSub, Int.reduceLT, Int.reduceLE, Int.reduceEq, Int.reduceNeg, Int.reduceBEq, Int.reduceBNe, ↓reduceIte, reduceCtorEq, beq_self_eq_true] <;> try simp (disch := omega) only [wrap_of])) | ((show OGE _ _ _ _ _ _ _; refine oge_intro (ARun.giveK 3 2 (by simp) (r2 _) ?_) ?_); (· simp only [List.map_cons, List.map_nil, AV.low, AV.toPV, AV.toPVs, AV.toPVr, getO0, getOk, getS0, getSk, List.getElem?_cons_zero, List.getElem?_cons_succ, Nat.not_lt_zero, if_false, if_true, List.length_cons, List.length_nil, Nat.zero_le, and_self, and_true, true_and, List.drop_zero, List.take_succ_cons, List.take_zero, List.take_nil, Option.map_some, Nat.zero_add, Nat.add_lt_add_iff_left, Nat.reduceLT, Nat.lt_irrefl, Nat.add_le_add_iff_left, Nat.reduceLeDiff, Nat.le_refl, Nat.le_add_right, Nat.add_zero, Nat.lt_add_right_iff_pos, not_lt_k]; repeat' (first | exact trivial | exact Cv.refl _ | exact Cv.nil (Nat.succ_pos _) | exact PCv.refl _ | exact PCv.nil (Nat.succ_pos _) | refine And.intro ?_ ?_ | refine Cv.agg ?_ | refine Cv.pv (PCv.rs ?_) | refine PCv.rs ?_)); (simp only [go_sem, Nat.reduceAdd, Nat.reduceSub, Nat.reduceMul, Nat.reduceLeDiff, Nat.reduceLT, Nat.reduceEqDiff, Int.reduceToNat, Int.reduceAdd, Int.reduceMul, Int.reduceSub, Int.reduceLT, Int.reduceLE, Int.reduceEq, Int.reduceNeg, Int.reduceBEq, Int.reduceBNe, ↓reduceIte, reduceCtorEq, beq_self_eq_true] <;> try simp (disch := omega) only [wrap_of])) | refine awp_skip ?_ | refine awp_ret ?_ | refine awp_exit ?_ | refine awp_label ?_ | refine awloop_step ?_ | fail)
    all_goals ((refine resX ?_; try exact True.intro))
end Go.Proofs.YtimmncjdknlegaaDoor.Y

set_option maxHeartbeats 8000000
set_option maxRecDepth 100000
set_option linter.unusedVariables false
set_option linter.unusedSimpArgs false
set_option linter.unusedSectionVars false
namespace Go.Proofs.YtimmncjdknlegaaDoor.Y
open Go.Proofs.YtimmncjdknlegaaDoor.AL Go.Proofs Go
attribute [local irreducible] AWP AWL AWG AWR AWE AWX AWO AWSeq AWSG AWSR AWSO AWSE AWSF GoodP OGW OGR OGE OGX PGW PGR PGE Wk AWLoop AWPD AWLD

/-- Rows of instructions of one's own. -/
def rwR (l : List Ins) : List (List AV) := l.map fun x => [AV.i x.op, .i x.n, .i x.rel]
abbrev rwI (l : List Ins) : AObj := .arr 42 3 (rwR l)
theorem rwR_app (a b : List Ins) : rwR (a ++ b) = rwR a ++ rwR b := by simp [rwR]
theorem rwR_one (x : Ins) : rwR [x] = [[AV.i x.op, .i x.n, .i x.rel]] := rfl
theorem rwR_under {t sz m : Nat} {l : List Ins} : (AObj.arr t sz (rwR l)).under m := by
  simp [rwR, AObj.under, AV.under]
theorem rwR_eq (l : List Ins) : rwR l = (l.map encI).map fun r => r.map AV.pv := by simp [rwR, encI, List.map_map, Function.comp_def]
theorem shI_if {x : Ins} {n : Int} : shI n x = ⟨x.op, if x.op = 12 ∨ x.op = 13 then x.n + n else x.n, x.rel⟩ := by unfold shI; split <;> rfl
theorem shI_jump {x : Ins} {n : Int} (h : x.op = 12 ∨ x.op = 13) : shI n x = ⟨x.op, x.n + n, x.rel⟩ := if_pos h
theorem shI_plain {x : Ins} {n : Int} (h : ¬ (x.op = 12 ∨ x.op = 13)) : shI n x = x := if_neg h
theorem joined_run (a b : List Ins) (ha : a.length ≤ 100000) (hb : b.length ≤ 100000) (hn : ∀ x ∈ b, x.op = 12 ∨ x.op = 13 → 0 ≤ x.n ∧ x.n ≤ 100000) (H0 : List AObj) :
    ARun Tryd.prog 17 [.rs 3 (a.map encI), .rs 3 (b.map encI)] H0 (.ret (.rs 3 ((joinS a b).map encI)) H0) := by
  (refine ARun.intro Tryd.func17 rfl Tryd.call17 Tryd.ntmps17 Tryd.results17 ?_; simp only [List.length_cons, List.length_nil, List.length_map, Nat.reduceAdd, Nat.reduceSub, List.replicate_succ, List.replicate_zero, List.cons_append, List.nil_append])
  (refine wkO ?_; (repeat' first | exact True.intro | refine Lf.mk ?_ ?_); all_goals intro hP)
  refine awp_loop_ind (σ := Nat) (fun k => b.length - k) (fun k => k ≤ b.length)
    (fun k => (.rs 3 (a.map encI) :: .rs 3 (b.map encI) :: .any :: .any :: .any :: .os H0.length 0 (a.length + k) (a.length + k) :: .i k :: .any :: .any :: .any :: .any :: .any :: .any :: .any :: .any :: .any :: .any :: .any :: .any :: .any :: .any :: .any :: .any :: .any :: .any :: .any :: .any :: .any :: .any :: .any :: .any :: .any :: .any :: .any :: .any :: .any :: .any :: .any :: .any :: .any :: .any :: .any :: .any :: .any :: .any :: []))
    (fun k => H0 ++ [rwI (a ++ (b.take k).map (shI a.length))]) 0 (Nat.zero_le _) ?_ ?_
  · refine Wk.fgtE ?_ ?_
    · simp [rwI, rwR_eq]
    · simp only [Nat.add_zero]; (refine fgX ?_; try exact True.intro)
  · intro k hk
    have hlk : (a ++ (b.take k).map (shI a.length)).length = a.length + k := by simp; omega
    by_cases hkl : k = b.length
    · subst hkl
      (refine wkO ?_; (repeat' first | exact True.intro | refine Lf.mk ?_ ?_); all_goals intro hP)
      refine ⟨_, rfl, _, rfl, Fin.pureC 2 ?_⟩
      have hlo := low_os_pvs (H := H0 ++ [rwI (joinS a b)]) (m := H0.length) (d := 1) (id := H0.length) (t := 42) (sz := 3) (rows := (joinS a b).map encI) (by rw [getO0, rwI, rwR_eq]) (Nat.le_refl _)
      rw [List.length_map, joinS_len] at hlo
      simp only [aOne, aev, List.getElem?_cons_succ, List.getElem?_cons_zero, Option.getD_some, List.take_length]
      rw [show a ++ b.map (shI a.length) = joinS a b from rfl, hlo]
      exact Cv.refl _
    · have hlt : k < b.length := by omega
      obtain ⟨y, hy⟩ : ∃ y, b[k]? = some y := ⟨b[k], List.getElem?_eq_getElem hlt⟩
      have hny := hn y (List.mem_of_getElem? hy)
      have hst : (b.take (k + 1)).map (shI a.length) = (b.take k).map (shI a.length) ++ [shI a.length y] := by rw [List.take_add_one, hy]; simp
      obtain ⟨op, nn, rel⟩ := y
      simp only at hny
      have hy' : (b.map encI)[k]? = some (cI ⟨op, nn, rel⟩) := by rw [List.getElem?_map, hy]; rfl
      have hw : IntKind.i64.wrap ((k : Int) + 1) = ((k + 1 : Nat) : Int) := by rw [wrap_of (by omega) (by omega)]; omega
      have hst' : a ++ (b.take (k + 1)).map (shI a.length) = (a ++ (b.take k).map (shI a.length)) ++ [shI a.length ⟨op, nn, rel⟩] := by rw [hst, List.append_assoc]
      have hlr : (rwR (a ++ (b.take k).map (shI a.length))).length = a.length + k := by simp [rwR]; omega
      simp only [rwI]
      generalize a ++ (b.take k).map (shI a.length) = row at *
      (have ww1 := hw; have ww2 := hy'; have ww3 := hlr; refine wkO ?_; clear ww1 ww2 ww3; (repeat' first | exact True.intro | refine Lf.mk ?_ ?_); all_goals intro hP)
      all_goals
        (try (rcases hP with ⟨rfl, _⟩))
        refine ⟨k + 1, by omega, by omega, ?_⟩
        rw [hst', shI_if]
        refine Wk.keepE 1 1 (by simp only [List.take_succ_cons, List.take_zero, rwI, rwR_app, rwR_one]; try simp (disch := omega) only [if_pos, if_neg, or_true, true_or, if_true]) (by simp) (by intro o ho; simp only [List.mem_cons, List.not_mem_nil, or_false] at ho; subst ho; exact rwR_under) ?_
        simp only [List.map_cons, List.map_nil, AV.low, Fgt, if_true, true_or, or_true, and_true, true_and, Nat.lt_add_right_iff_pos, Nat.add_lt_add_iff_left, Nat.reduceLT]
end Go.Proofs.YtimmncjdknlegaaDoor.Y

set_option maxHeartbeats 8000000
set_option maxRecDepth 100000
set_option linter.unusedVariables false
set_option linter.unusedSimpArgs false
set_option linter.unusedSectionVars false
namespace Go.Proofs.YtimmncjdknlegaaDoor.Y
open Go.Proofs.YtimmncjdknlegaaDoor.AL Go.Proofs Go
attribute [local irreducible] AWP AWL AWG AWR AWE AWX AWO AWSeq AWSG AWSR AWSO AWSE AWSF GoodP OGW OGR OGE OGX PGW PGR PGE Wk AWLoop AWPD AWLD
theorem dr5_6_X12d : Drawn Tryd.prog 6 (regOps 6 ((Tryd.f5.body).getD .skip)) [12, 15] [] [.win [0, 1], .win [0, 1], .win [0], .win [0], .win [0], .win [0], .win [0], .win [0], .win [0], .win [0], .win [0], .win [0], .eff 0, .win [0, 1], .win [1], .eff 1] 2 [] := ⟨rfl, by as_aux_lemma => kernel_rfl⟩

theorem setHand_fine {c : Cod} {ev : Int} {l : List Ins} (h : CodFine c) (hl : l.length ≤ 2000000) : CodFine (setHand c ev l) := by
  obtain ⟨a0, a1, a2, a3, a4⟩ := h
  unfold setHand
  repeat' split
  all_goals (refine ⟨?_, ?_, ?_, ?_, ?_⟩ <;> assumption)
theorem verC_hand {c : Cod} {vars ev : Int} (h : verC c vars = true) (hev : 0 ≤ ev ∧ ev < 5) : (hand c ev).length ≤ 4000 ∧ ∀ x ∈ hand c ev, x.op = 12 ∨ x.op = 13 → 0 ≤ x.n ∧ x.n ≤ 100000 := by
  obtain ⟨ht, hc⟩ := verH_cert (hand_ver h hev.1 hev.2)
  refine ⟨hc.len, fun x hx ho => ?_⟩
  obtain ⟨i, hi⟩ := List.getElem?_of_mem hx
  have := insOk_jump (hc.at' _ _ hi).ok ho
  have := hc.len
  omega
/-- What the law asks. -/
def partS (vs : List Vr) (c d : Cod) (st : List Int) (x : Cal) : Bool := lfitS vs c st x && (shortS d 2000 && verC d vs.length)
theorem MParts_run (vs : List Vr) (c d : Cod) (st : List Int) (x : Cal) (hf : CodFine c) (hfd : CodFine d) (hv : vs.length ≤ 2000000) (hs : st.length ≤ 2000000) (H0 : List AObj) :
    ARun Tryd.prog 5 [.rs 5 (vs.map encV), agC c, agC d, .rs 1 (rI st), agL x] H0 (.ret (.b true) H0) := by
  have h0 := fun H0 => head_run H0
  have h1 := fun H0 => lfits_run vs c st x hv hs hf H0
  have h2 := fun H0 => RShort_run d 2000 H0
  have h3 := fun H0 => RVerify_run d vs.length hfd H0
  cases hfit : lfitS vs c st x with
  | false =>
    simp only [hfit] at h1
    (refine ARun.intro Tryd.func5 rfl Tryd.call5 Tryd.ntmps5 Tryd.results5 ?_; simp only [List.length_cons, List.length_nil, List.length_map, Nat.reduceAdd, Nat.reduceSub, List.replicate_succ, List.replicate_zero, List.cons_append, List.nil_append])
    (have rr1 := dr5_6_X12d; have cc1 := fun z1 => h0 z1; have cc2 := fun z1 => h1 z1; have cc3 := fun z1 => h2 z1; have cc4 := fun z1 => h3 z1; refine wkO ?_; clear rr1 cc1 cc2 cc3 cc4; (repeat' first | exact True.intro | refine Lf.mk ?_ ?_); all_goals intro hP)
    all_goals ((refine resX ?_; try exact True.intro))
  | true =>
    simp only [hfit] at h1
    obtain ⟨f1, f2, f3, f4⟩ := lfit_all hfit
    obtain ⟨ff1, ff2, ff3⟩ := fits_all f4
    have hev := call_ev ff3
    have hg := hand_get (c := c) hev
    have hgd := hand_get (c := d) hev
    obtain ⟨lc, _⟩ := verC_hand ff1 hev
    obtain ⟨ev0, ev5⟩ := hev
    cases hsd : shortS d 2000 with
    | false =>
      simp only [hsd] at h2
      (refine ARun.intro Tryd.func5 rfl Tryd.call5 Tryd.ntmps5 Tryd.results5 ?_; simp only [List.length_cons, List.length_nil, List.length_map, Nat.reduceAdd, Nat.reduceSub, List.replicate_succ, List.replicate_zero, List.cons_append, List.nil_append])
      (have rr1 := dr5_6_X12d; have ww1 := hg; have ww2 := ev0; have ww3 := ev5; have cc1 := fun z1 => h0 z1; have cc2 := fun z1 => h1 z1; have cc3 := fun z1 => h2 z1; have cc4 := fun z1 => h3 z1; refine wkO ?_; clear rr1 ww1 ww2 ww3 cc1 cc2 cc3 cc4; (repeat' first | exact True.intro | refine Lf.mk ?_ ?_); all_goals intro hP)
      all_goals ((refine resX ?_; try exact True.intro))
    | true =>
      simp only [hsd] at h2
      cases hvd : verC d vs.length with
      | false =>
        simp only [hvd] at h3
        (refine ARun.intro Tryd.func5 rfl Tryd.call5 Tryd.ntmps5 Tryd.results5 ?_; simp only [List.length_cons, List.length_nil, List.length_map, Nat.reduceAdd, Nat.reduceSub, List.replicate_succ, List.replicate_zero, List.cons_append, List.nil_append])
        (have rr1 := dr5_6_X12d; have ww1 := hg; have ww2 := ev0; have ww3 := ev5; have cc1 := fun z1 => h0 z1; have cc2 := fun z1 => h1 z1; have cc3 := fun z1 => h2 z1; have cc4 := fun z1 => h3 z1; refine wkO ?_; clear rr1 ww1 ww2 ww3 cc1 cc2 cc3 cc4; (repeat' first | exact True.intro | refine Lf.mk ?_ ?_); all_goals intro hP)
        all_goals ((refine resX ?_; try exact True.intro))
      | true =>
        simp only [hvd] at h3
        by_cases hlc : 2000 < (hand c x.ev).length
        · (refine ARun.intro Tryd.func5 rfl Tryd.call5 Tryd.ntmps5 Tryd.results5 ?_; simp only [List.length_cons, List.length_nil, List.length_map, Nat.reduceAdd, Nat.reduceSub, List.replicate_succ, List.replicate_zero, List.cons_append, List.nil_append])
          (have rr1 := dr5_6_X12d; have ww1 := hg; have ww2 := ev0; have ww3 := ev5; have cc1 := fun z1 => h0 z1; have cc2 := fun z1 => h1 z1; have cc3 := fun z1 => h2 z1; have cc4 := fun z1 => h3 z1; refine wkO ?_; clear rr1 ww1 ww2 ww3 cc1 cc2 cc3 cc4; (repeat' first | exact True.intro | refine Lf.mk ?_ ?_); all_goals intro hP)
          all_goals ((refine resX ?_; try exact True.intro))
        · obtain ⟨ld, nd⟩ := verC_hand hvd ⟨ev0, ev5⟩
          have ld2 : (hand d x.ev).length ≤ 2000 := by
            unfold shortS at hsd
            simp only [Bool.and_eq_true, decide_eq_true_eq] at hsd
            unfold hand
            repeat' split
            all_goals omega
          obtain ⟨p1, p2, p3⟩ := run_parts f4 hvd (by omega)
          have hj := fun H0 => joined_run (hand c x.ev) (hand d x.ev) (by omega) (by omega) nd H0
          have hfb : CodFine (setHand c x.ev (joinS (hand c x.ev) (hand d x.ev))) := setHand_fine hf (by rw [joinS_len]; omega)
          have r1 := fun H0 => MRun_run vs c st x hv hs hf H0
          have r2 := fun H0 => MSteps_run vs c st x hv hs hf H0
          have r3 := fun H0 => MRun_run vs (setHand c x.ev (joinS (hand c x.ev) (hand d x.ev))) st x hv hs hfb H0
          have r4 := fun H0 => MSteps_run vs (setHand c x.ev (joinS (hand c x.ev) (hand d x.ev))) st x hv hs hfb H0
          have nb := (run_states f4).2.2.1
          simp only [refRunS, f4, if_true] at r1
          simp only [stepsN, stepsE, f4, if_true] at r2
          simp only [refRunS, p1, if_true] at r3
          simp only [stepsN, stepsE, p1, if_true] at r4
          have hev5 : x.ev = 0 ∨ x.ev = 1 ∨ x.ev = 2 ∨ x.ev = 3 ∨ x.ev = 4 := by omega
          cases hr : (runS vs c st x).1 with
          | error e =>
            have he := trace_ne hr
            rw [p2 e hr] at r3 r4
            simp only [hr, runL, runE] at r1 r3
            generalize (runS vs c st x).2 = n at *
            generalize hand c x.ev = hc' at *
            generalize hand d x.ev = hd' at *
            clear p1 p2 p3 hfb
            obtain ⟨ev, i0, i1, i2, i3⟩ := x
            simp only at *
            rcases hev5 with rfl | rfl | rfl | rfl | rfl
            all_goals simp only [setHand, Int.reduceEq, if_true, if_false, Int.reduceToNat] at r3 r4 hg hgd
            all_goals (refine ARun.intro Tryd.func5 rfl Tryd.call5 Tryd.ntmps5 Tryd.results5 ?_; simp only [List.length_cons, List.length_nil, List.length_map, Nat.reduceAdd, Nat.reduceSub, List.replicate_succ, List.replicate_zero, List.cons_append, List.nil_append])
            all_goals
              (have rr1 := dr5_6_X12d; have ww1 := hg; have ww2 := hgd; have cc1 := fun z1 => h0 z1; have cc2 := fun z1 => h1 z1; have cc3 := fun z1 => h2 z1; have cc4 := fun z1 => h3 z1; have cc5 := fun z1 => hj z1; have cc6 := fun z1 => r1 z1; have cc7 := fun z1 => r2 z1; have cc8 := fun z1 => r3 z1; have cc9 := fun z1 => r4 z1; refine wkO ?_; clear rr1 ww1 ww2 cc1 cc2 cc3 cc4 cc5 cc6 cc7 cc8 cc9; (repeat' first | exact True.intro | refine Lf.mk ?_ ?_); all_goals intro hP)
            all_goals ((refine resX ?_; try exact True.intro))
          | ok s =>
            obtain ⟨q1, q2⟩ := p3 s hr
            have sl : s.length ≤ 2000000 := by
              have := stOk_len (fits_all q1).2.1; omega
            have nb2 := (run_states q1).2.2.1
            rw [q2] at r3 r4
            simp only [hr, runL, runE] at r1 r3
            have r5 := fun H0 => MRun_run vs d s x hv sl hfd H0
            have r6 := fun H0 => MSteps_run vs d s x hv sl hfd H0
            have hrl := refRun_len vs d s x
            have r7 := fun H0 => Ints_run (runL (refRunS vs d s x)) (runL (refRunS vs d s x)) (by omega) H0
            rw [beq_self_eq_true] at r7
            simp only [refRunS, q1, if_true] at r5 r7
            simp only [stepsN, stepsE, q1, if_true] at r6
            simp only [runL, runE] at r3 r5 r7
            generalize (runS vs d s x).1 = o at *
            generalize (runS vs d s x).2 = n2 at *
            generalize (runS vs c st x).2 = n at *
            generalize hand c x.ev = hc' at *
            generalize hand d x.ev = hd' at *
            clear p1 p2 p3 hfb q2
            obtain ⟨ev, i0, i1, i2, i3⟩ := x
            simp only at *
            have hw : IntKind.i64.wrap ((n : Int) + n2) = ((n + n2 : Nat) : Int) := by rw [wrap_of (by omega) (by omega)]; omega
            rcases hev5 with rfl | rfl | rfl | rfl | rfl
            all_goals simp only [setHand, Int.reduceEq, if_true, if_false, Int.reduceToNat] at r3 r4 hg hgd
            all_goals (refine ARun.intro Tryd.func5 rfl Tryd.call5 Tryd.ntmps5 Tryd.results5 ?_; simp only [List.length_cons, List.length_nil, List.length_map, Nat.reduceAdd, Nat.reduceSub, List.replicate_succ, List.replicate_zero, List.cons_append, List.nil_append])
            all_goals
              (have rr1 := dr5_6_X12d; have ww1 := hg; have ww2 := hgd; have ww3 := hw; have cc1 := fun z1 => h0 z1; have cc2 := fun z1 => h1 z1; have cc3 := fun z1 => h2 z1; have cc4 := fun z1 => h3 z1; have cc5 := fun z1 => hj z1; have cc6 := fun z1 => r1 z1; have cc7 := fun z1 => r2 z1; have cc8 := fun z1 => r3 z1; have cc9 := fun z1 => r4 z1; have cc10 := fun z1 => r5 z1; have cc11 := fun z1 => r6 z1; have cc12 := fun z1 => r7 z1; refine wkO ?_; clear rr1 ww1 ww2 ww3 cc1 cc2 cc3 cc4 cc5 cc6 cc7 cc8 cc9 cc10 cc11 cc12; (repeat' first | exact True.intro | refine Lf.mk ?_ ?_); all_goals intro hP)
            all_goals ((refine resX ?_; try exact True.intro))
end Go.Proofs.YtimmncjdknlegaaDoor.Y

set_option maxHeartbeats 8000000
set_option maxRecDepth 100000
set_option linter.unusedVariables false
set_option linter.unusedSimpArgs false
set_option linter.unusedSectionVars false
namespace Go.Proofs.YtimmncjdknlegaaDoor.Y
open Go.Proofs.YtimmncjdknlegaaDoor.AL Go.Proofs Go
attribute [local irreducible] AWP AWL AWG AWR AWE AWX AWO AWSeq AWSG AWSR AWSO AWSE AWSF GoodP OGW OGR OGE OGX PGW PGR PGE Wk AWLoop AWPD AWLD
theorem dr4_22_X12b : Drawn Tryd.prog 22 (regOps 22 ((Tryd.f4.body).getD .skip)) [] [] [.win [0], .win [0], .win [0], .win [0], .win [0], .win [0], .win [0], .win [0], .win [0], .win [0], .win [0], .win [0], .win [0], .win [0], .win [0], .win [0]] 0 [9] := ⟨rfl, by as_aux_lemma => kernel_rfl⟩

/-- Is a variable stored, as a test? -/
def storedB (l : List Ins) (i : Nat) : Bool := l.any fun x => x.op == 11 && x.n == (i : Int)
theorem storedB_iff {l : List Ins} {i : Nat} : storedB l i = true ↔ storedS l i := by
  unfold storedB storedS
  simp only [List.any_eq_true, Bool.and_eq_true, beq_iff_eq]
theorem storedB_take {l : List Ins} {i k : Nat} {x : Ins} (h : l[k]? = some x) : storedB (l.take (k + 1)) i = (storedB (l.take k) i || (x.op == 11 && x.n == (i : Int))) := by
  unfold storedB
  rw [List.take_add_one, h, List.any_append]
  simp
theorem MStates_run (vs : List Vr) (c : Cod) (st : List Int) (x : Cal) (hf : CodFine c) (hv : vs.length ≤ 2000000) (hs : st.length ≤ 2000000) (H0 : List AObj) :
    ARun Tryd.prog 4 [.rs 5 (vs.map encV), agC c, .rs 1 (rI st), agL x] H0 (.ret (.b true) H0) := by
  have h0 := fun H0 => head_run H0
  have h1 := fun H0 => lfits_run vs c st x hv hs hf H0
  cases hfit : lfitS vs c st x with
  | false =>
    simp only [hfit] at h1
    (refine ARun.intro Tryd.func4 rfl Tryd.call4 Tryd.ntmps4 Tryd.results4 ?_; simp only [List.length_cons, List.length_nil, List.length_map, Nat.reduceAdd, Nat.reduceSub, List.replicate_succ, List.replicate_zero, List.cons_append, List.nil_append])
    (have rr1 := dr4_22_X12b; have cc1 := fun z1 => h0 z1; have cc2 := fun z1 => h1 z1; refine wkO ?_; clear rr1 cc1 cc2; (repeat' first | exact True.intro | refine Lf.mk ?_ ?_); all_goals intro hP)
    all_goals ((refine resX ?_; try exact True.intro))
  | true =>
    obtain ⟨f1, f2, f3, f4⟩ := lfit_all hfit
    obtain ⟨g1, g2, g3, g4⟩ := run_states f4
    have hev := call_ev (fits_all f4).2.2
    simp only [hfit] at h1
    have r1 := fun H0 => MRun_run vs c st x hv hs hf H0
    have r2 := fun H0 => MSteps_run vs c st x hv hs hf H0
    have hg := hand_get (c := c) hev
    have hl : (hand c x.ev).length ≤ 4000 := by
      obtain ⟨a, b⟩ := verH_cert (hand_ver (fits_all f4).1 hev.1 hev.2); exact b.len
    have e1 : refRunS vs c st x = (runS vs c st x).1 := by simp only [refRunS, f4, if_true]
    have e2 : stepsN vs c st x = ((runS vs c st x).2 : Int) := by simp only [stepsN, f4, if_true]
    have e3 : stepsE vs c st x = 0 := by simp only [stepsE, f4, if_true]
    simp only [e1] at r1
    simp only [e2, e3] at r2
    obtain ⟨ev0, ev5⟩ := hev
    generalize hn : (runS vs c st x).2 = n at *
    generalize hand c x.ev = hd at *
    cases hr : (runS vs c st x).1 with
    | error e =>
      have he := g2 e hr
      simp only [hr, runL, runE] at r1
      have n1 : (n : Int) ≤ hd.length := by omega
      have n2 : 1 ≤ (n : Int) ∨ (hd.length : Int) = 0 := by omega
      (refine ARun.intro Tryd.func4 rfl Tryd.call4 Tryd.ntmps4 Tryd.results4 ?_; simp only [List.length_cons, List.length_nil, List.length_map, Nat.reduceAdd, Nat.reduceSub, List.replicate_succ, List.replicate_zero, List.cons_append, List.nil_append])
      (have rr1 := dr4_22_X12b; have ww1 := hg; have ww2 := ev0; have ww3 := ev5; have cc1 := fun z1 => h0 z1; have cc2 := fun z1 => h1 z1; have cc3 := fun z1 => r1 z1; have cc4 := fun z1 => r2 z1; refine wkO ?_; clear rr1 ww1 ww2 ww3 cc1 cc2 cc3 cc4; (repeat' first | exact True.intro | refine Lf.mk ?_ ?_); all_goals intro hP)
      all_goals ((refine resX ?_; try exact True.intro))
    | ok s =>
      obtain ⟨s1, s2⟩ := g1 s hr
      simp only [hr, runL, runE] at r1
      have n1 : (n : Int) ≤ hd.length := by omega
      have n2 : 1 ≤ (n : Int) ∨ (hd.length : Int) = 0 := by omega
      have sl : s.length = vs.length := stOk_len s1
      have tl : st.length = vs.length := stOk_len (fits_all f4).2.1
      have r3 := fun H0 => RState_run vs s hv (by omega) H0
      simp only [s1] at r3
      (refine ARun.intro Tryd.func4 rfl Tryd.call4 Tryd.ntmps4 Tryd.results4 ?_; simp only [List.length_cons, List.length_nil, List.length_map, Nat.reduceAdd, Nat.reduceSub, List.replicate_succ, List.replicate_zero, List.cons_append, List.nil_append])
      (have rr1 := dr4_22_X12b; have ww1 := hg; have ww2 := ev0; have ww3 := ev5; have cc1 := fun z1 => h0 z1; have cc2 := fun z1 => h1 z1; have cc3 := fun z1 => r1 z1; have cc4 := fun z1 => r2 z1; have cc5 := fun z1 => r3 z1; refine wkO ?_; clear rr1 ww1 ww2 ww3 cc1 cc2 cc3 cc4 cc5; (repeat' first | exact True.intro | refine Lf.mk ?_ ?_); all_goals intro hP)
      all_goals (try (exfalso; omega))
      all_goals clear h0 h1 r1 r2 r3 g1 g2 e1 e2 e3
      all_goals
        refine awp_loop_ind (σ := Nat) (fun i => s.length - i) (fun i => i ≤ s.length)
          (fun i => (.any :: .any :: .rs 1 (rI st) :: .any :: .any :: .any :: .any :: .any :: .any :: .b true :: .any :: .rs 1 (rI s) :: .any :: .any :: .any :: .rs 3 (hd.map encI) :: .any :: .i i :: .any :: .any :: .any :: .any :: .any :: .any :: .any :: .any :: .any :: .any :: .any :: .any :: .any :: .any :: .any :: .any :: .any :: .any :: .any :: .any :: .any :: .any :: .any :: .any :: .any :: .any :: .any :: .any :: .any :: .any :: .any :: .any :: .any :: .any :: .any :: .any :: .any :: .any :: .any :: .any :: .any :: .any :: .any :: .any :: .any :: .any :: .any :: .any :: .any :: .any :: .any :: .any :: .any :: .any :: .any :: .any :: .any :: .any :: .any :: .any :: .any :: .any :: .any :: .any :: .any :: .any :: .any :: .any :: .any :: .any :: .any :: .any :: .any :: .any :: .any :: .any :: .any :: .any :: .any :: .any :: .any :: .any :: .any :: .any :: .any :: .any :: .any :: .any :: .any :: .any :: .any :: .any :: .any :: .any :: .any :: .any :: .any :: .any :: .any :: .any :: .any :: .any :: .any :: .any :: .any :: .any :: .any :: .any :: .any :: .any :: .any :: .any :: .any :: .any :: .any :: .any :: .any :: .any :: .any :: .any :: .any :: .any :: .any :: [])) (fun i => H0) 0 (Nat.zero_le _) (by (refine dropX ?_; try exact True.intro)) ?_
      all_goals
        intro i hi
        by_cases hil : i = s.length
        · subst hil
          (have rr1 := dr4_22_X12b; refine wkO ?_; clear rr1; (repeat' first | exact True.intro | refine Lf.mk ?_ ?_); all_goals intro hP)
          (refine resX ?_; try exact True.intro)
        · have hlt : i < s.length := by omega
          have hsi := getEI (l := s) (k := i) hlt
          have hti := getEI (l := st) (k := i) (by omega)
          have hs' : (rI s)[i]? = some [.i (s.getD i 0)] := by rw [List.getElem?_map, hsi]; rfl
          have ht' : (rI st)[i]? = some [.i (st.getD i 0)] := by rw [List.getElem?_map, hti]; rfl
          (have rr1 := dr4_22_X12b; refine wkO ?_; clear rr1; (repeat' first | exact True.intro | refine Lf.mk ?_ ?_); all_goals intro hP)
          refine awp_loop_ind (σ := Nat) (fun k => hd.length - k) (fun k => k ≤ hd.length)
            (fun k => (.any :: .any :: .rs 1 (rI st) :: .any :: .any :: .any :: .any :: .any :: .any :: .b true :: .any :: .rs 1 (rI s) :: .any :: .any :: .any :: .rs 3 (hd.map encI) :: .any :: .i i :: .b (storedB (hd.take k) i) :: .i k :: .any :: .any :: .any :: .any :: .any :: .any :: .any :: .any :: .any :: .any :: .any :: .any :: .any :: .any :: .any :: .any :: .any :: .any :: .any :: .any :: .any :: .any :: .any :: .any :: .any :: .any :: .any :: .any :: .any :: .any :: .any :: .any :: .any :: .any :: .any :: .any :: .any :: .any :: .any :: .any :: .any :: .any :: .any :: .any :: .any :: .any :: .any :: .any :: .any :: .any :: .any :: .any :: .any :: .any :: .any :: .any :: .any :: .any :: .any :: .any :: .any :: .any :: .any :: .any :: .any :: .any :: .any :: .any :: .any :: .any :: .any :: .any :: .any :: .any :: .any :: .any :: .any :: .any :: .any :: .any :: .any :: .any :: .any :: .any :: .any :: .any :: .any :: .any :: .any :: .any :: .any :: .any :: .any :: .any :: .any :: .any :: .any :: .any :: .any :: .any :: .any :: .any :: .any :: .any :: .any :: .any :: .any :: .any :: .any :: .any :: .any :: .any :: .any :: .any :: .any :: .any :: .any :: .any :: .any :: .any :: .any :: [])) (fun k => H0) 0 (Nat.zero_le _) (by rw [show storedB (hd.take 0) i = false from rfl]; (refine dropX ?_; try exact True.intro)) ?_
          intro k hk
          by_cases hkl : k = hd.length
          · subst hkl
            rw [List.take_length]
            have hw : IntKind.i64.wrap ((i : Int) + 1) = ((i + 1 : Nat) : Int) := by rw [wrap_of (by omega) (by omega)]; omega
            cases hsb : storedB hd i with
            | true =>
              (have rr1 := dr4_22_X12b; have ww1 := hw; refine wkO ?_; clear rr1 ww1; (repeat' first | exact True.intro | refine Lf.mk ?_ ?_); all_goals intro hP)
              exact ⟨i + 1, by omega, by omega, by (refine fgtX ?_; try exact True.intro)⟩
            | false =>
              have he : s.getD i 0 = st.getD i 0 := by
                have := s2 i (by rw [← storedB_iff, hsb]; simp)
                rw [hsi, hti] at this
                exact Option.some.inj this
              (have rr1 := dr4_22_X12b; have ww1 := hw; have ww2 := hs'; have ww3 := ht'; have ww4 := he; refine wkO ?_; clear rr1 ww1 ww2 ww3 ww4; (repeat' first | exact True.intro | refine Lf.mk ?_ ?_); all_goals intro hP)
              all_goals first | (exact ⟨i + 1, by omega, by omega, by (refine fgtX ?_; try exact True.intro)⟩)
          · have hklt : k < hd.length := by omega
            all_goals (try (exfalso; omega))
            all_goals
              obtain ⟨y, hy⟩ : ∃ y, hd[k]? = some y := ⟨hd[k], List.getElem?_eq_getElem hklt⟩
              have hst := storedB_take (i := i) hy
              obtain ⟨op, nn, rel⟩ := y
              have hy' : (hd.map encI)[k]? = some (cI ⟨op, nn, rel⟩) := by rw [List.getElem?_map, hy]; rfl
              have hw : IntKind.i64.wrap ((k : Int) + 1) = ((k + 1 : Nat) : Int) := by rw [wrap_of (by omega) (by omega)]; omega
              cases hsb : storedB (hd.take k) i with
              | true =>
                rw [hsb, Bool.true_or] at hst
                (have rr1 := dr4_22_X12b; have ww1 := hw; have ww2 := hy'; have ww3 := hsb; refine wkO ?_; clear rr1 ww1 ww2 ww3; (repeat' first | exact True.intro | refine Lf.mk ?_ ?_); all_goals intro hP)
                all_goals first | (refine ⟨k + 1, by omega, by omega, ?_⟩; rw [hst]; (refine fgtX ?_; try exact True.intro))
              | false =>
                rw [hsb, Bool.false_or] at hst
                (have rr1 := dr4_22_X12b; have ww1 := hw; have ww2 := hy'; have ww3 := hsb; refine wkO ?_; clear rr1 ww1 ww2 ww3; (repeat' first | exact True.intro | refine Lf.mk ?_ ?_); all_goals intro hP)
                all_goals first | (refine ⟨k + 1, by omega, by omega, ?_⟩; rw [hst]; (refine fgtX ?_; try exact True.intro); done) | (refine ⟨k + 1, by omega, by omega, ?_⟩; rw [hst]; (refine fgtX ?_; try exact True.intro); simp_all)
end Go.Proofs.YtimmncjdknlegaaDoor.Y

namespace Go.Proofs.YtimmncjdknlegaaDoor.Y
open Go.Proofs.YtimmncjdknlegaaDoor.AL Go.Proofs Go
attribute [local irreducible] AWP AWL AWG AWR AWE AWX AWO AWSeq AWSG AWSR AWSO AWSE AWSF GoodP OGW OGR OGE OGX PGW PGR PGE Wk AWLoop AWPD AWLD
abbrev bk (H : Type) (d : DataW H) : Nat := Go.Proofs.YtimmncjdknlegaaDoor.Rows.uptoBulk d
abbrev bkl (H : Type) (d : List (DataW H)) : Nat := Go.Proofs.YtimmncjdknlegaaDoor.Rows.uptoBulkAll d
theorem bulk : Bulk bk bkl where
  lit := fun H l => by cases l <;> simp [bk, Go.Proofs.YtimmncjdknlegaaDoor.Rows.uptoBulk]
  str := fun H b => by simp [bk, Go.Proofs.YtimmncjdknlegaaDoor.Rows.uptoBulk]
  nil := fun H => by simp [bk, Go.Proofs.YtimmncjdknlegaaDoor.Rows.uptoBulk]
  slice := fun H es sp => by simp [bk, bkl, Go.Proofs.YtimmncjdknlegaaDoor.Rows.uptoBulk]
  agg := fun H ps => by simp [bk, bkl, Go.Proofs.YtimmncjdknlegaaDoor.Rows.uptoBulk]
  lnil := fun H => by simp [bkl, Go.Proofs.YtimmncjdknlegaaDoor.Rows.uptoBulkAll]
  lcons := fun H d l => by simp [bk, bkl, Go.Proofs.YtimmncjdknlegaaDoor.Rows.uptoBulkAll]

theorem laidOut : laidOutB Tryd.prog = true := by kernel_rfl
theorem own : ownKnob Tryd.prog.godebug = none := by kernel_rfl
theorem len1 {α : Type} {l : List α} (h : l.length = 1) : ∃ a, l = [a] := by
  match l, h with | [a], _ => exact ⟨a, rfl⟩
theorem bulk_bound {H : Type} {l : List (DataW H)} (hk : Go.Proofs.YtimmncjdknlegaaDoor.Rows.uptoSmall H l = true) : bkl H l ≤ 1048576 := of_decide_eq_true hk
end Go.Proofs.YtimmncjdknlegaaDoor.Y

set_option maxRecDepth 20000
set_option linter.unusedVariables false
set_option linter.unusedSimpArgs false
namespace Go.Proofs.YtimmncjdknlegaaDoor.Y
open Go.Proofs.YtimmncjdknlegaaDoor.AL Go.Proofs Go
attribute [local irreducible] AWP AWL AWG AWR AWE AWX AWO AWSeq AWSG AWSR AWSO AWSE AWSF GoodP OGW OGR OGE OGX PGW PGR PGE Wk AWLoop AWPD AWLD
theorem rdIn : ∀ n, Rd Tryd.prog bk n 42 encI (fun _ => 1) (fun _ => True) := by
  intro n
  induction n with
  | zero => exact Rd.zero
  | succ n ih =>
    intro H e w sp hd fuel cs x hn h hlt
    obtain ⟨xs, m, hm, hc, hx, hb, hf, hl⟩ := trod_fields bulk Tryd.underlying42 hn h hlt
    rw [show Tryd.prog.cellsOf 42 = 3 from by kernel_rfl] at hc
    obtain ⟨x0, x1, x2, rfl⟩ : ∃ x0 x1 x2, xs = [x0, x1, x2] := by
      match xs, hx with | [x0, x1, x2], _ => exact ⟨x0, x1, x2, rfl⟩
    obtain ⟨c0, c1, c2, rfl⟩ : ∃ c0 c1 c2, cs = [c0, c1, c2] := by
      match cs, hc with | [c0, c1, c2], _ => exact ⟨c0, c1, c2, rfl⟩
    simp only [List.map_cons, List.map_nil, bulk.lcons, bulk.lnil] at hb
    have f0 := hf 0 _ rfl
    have f1 := hf 1 _ rfl
    have f2 := hf 2 _ rfl
    simp only [show Tryd.prog.cellsOf 3 = 1 from by kernel_rfl, List.drop_zero, List.drop_succ_cons, List.take_succ_cons, List.take_zero, List.getElem?_cons_zero, List.getElem?_cons_succ] at f0 f1 f2
    obtain ⟨a0, r0, m0, p0⟩ := (Rd.int bulk (n := n) Tryd.underlying3) hm f0 (hl x0 (by simp))
    obtain ⟨a1, r1, m1, p1⟩ := (Rd.int bulk (n := n) Tryd.underlying3) hm f1 (hl x1 (by simp))
    obtain ⟨a2, r2, m2, p2⟩ := (Rd.int bulk (n := n) Tryd.underlying3) hm f2 (hl x2 (by simp))
    (try dsimp only at m0); (try dsimp only at m1); (try dsimp only at m2)
    refine ⟨⟨a0, a1, a2⟩, ?_, ?_, trivial⟩
    · exact r0.append (r1.append (r2))
    · dsimp only; omega
theorem rdIns (n : Nat) : Rd Tryd.prog bk n 23 (fun l : List Ins => [.rs 3 (l.map encI)]) (fun l => sumM (fun _ => 1) l + 1) (fun l => ∀ a ∈ l, True) :=
  Rd.le (Rd.slice bulk (n := n) Tryd.underlying23 (by kernel_rfl) (by decide) (rdIn n) (fun _ => rfl)) (Nat.le_succ n)
theorem rdI1 (n : Nat) : Rd Tryd.prog bk n 27 (fun l : List Int => [.rs 1 (rI l)]) (fun l => sumM (fun _ => 1) l + 1) (fun l => ∀ a ∈ l, (Lit.int .i64 a).wf = true) :=
  Rd.le (Rd.slice bulk (n := n) Tryd.underlying27 (by kernel_rfl) (by decide) (Rd.int bulk (n := n) Tryd.underlying3) (fun _ => rfl)) (Nat.le_succ n)
theorem rdV : ∀ n, Rd Tryd.prog bk n 59 encV wV (fun _ => True) := by
  intro n
  induction n with
  | zero => exact Rd.zero
  | succ n ih =>
    intro H e w sp hd fuel cs x hn h hlt
    obtain ⟨xs, m, hm, hc, hx, hb, hf, hl⟩ := trod_fields bulk Tryd.underlying59 hn h hlt
    rw [show Tryd.prog.cellsOf 59 = 5 from by kernel_rfl] at hc
    obtain ⟨x0, x1, x2, x3, x4, rfl⟩ : ∃ x0 x1 x2 x3 x4, xs = [x0, x1, x2, x3, x4] := by
      match xs, hx with | [x0, x1, x2, x3, x4], _ => exact ⟨x0, x1, x2, x3, x4, rfl⟩
    obtain ⟨c0, c1, c2, c3, c4, rfl⟩ : ∃ c0 c1 c2 c3 c4, cs = [c0, c1, c2, c3, c4] := by
      match cs, hc with | [c0, c1, c2, c3, c4], _ => exact ⟨c0, c1, c2, c3, c4, rfl⟩
    simp only [List.map_cons, List.map_nil, bulk.lcons, bulk.lnil] at hb
    have f0 := hf 0 _ rfl
    have f1 := hf 1 _ rfl
    have f2 := hf 2 _ rfl
    have f3 := hf 3 _ rfl
    have f4 := hf 4 _ rfl
    simp only [show Tryd.prog.cellsOf 3 = 1 from by kernel_rfl, show Tryd.prog.cellsOf 9 = 1 from by kernel_rfl, List.drop_zero, List.drop_succ_cons, List.take_succ_cons, List.take_zero, List.getElem?_cons_zero, List.getElem?_cons_succ] at f0 f1 f2 f3 f4
    obtain ⟨a0, r0, m0, p0⟩ := (Rd.str bulk (n := n) Tryd.underlying9) hm f0 (hl x0 (by simp))
    obtain ⟨a1, r1, m1, p1⟩ := (Rd.int bulk (n := n) Tryd.underlying3) hm f1 (hl x1 (by simp))
    obtain ⟨a2, r2, m2, p2⟩ := (Rd.int bulk (n := n) Tryd.underlying3) hm f2 (hl x2 (by simp))
    obtain ⟨a3, r3, m3, p3⟩ := (Rd.int bulk (n := n) Tryd.underlying3) hm f3 (hl x3 (by simp))
    obtain ⟨a4, r4, m4, p4⟩ := (Rd.int bulk (n := n) Tryd.underlying3) hm f4 (hl x4 (by simp))
    (try dsimp only at m0); (try dsimp only at m1); (try dsimp only at m2); (try dsimp only at m3); (try dsimp only at m4)
    refine ⟨⟨a0, a1, a2, a3, a4⟩, ?_, ?_, trivial⟩
    · exact r0.append (r1.append (r2.append (r3.append (r4))))
    · simp only [wV]; omega
theorem rdVs (n : Nat) : Rd Tryd.prog bk n 22 (fun l : List Vr => [.rs 5 (l.map encV)]) (fun l => sumM wV l + 1) (fun l => ∀ a ∈ l, True) :=
  Rd.le (Rd.slice bulk (n := n) Tryd.underlying22 (by kernel_rfl) (by decide) (rdV n) (fun _ => rfl)) (Nat.le_succ n)
def wI (l : List Ins) : Nat := sumM (fun _ => 1) l + 1
theorem wI_len (l : List Ins) : l.length < wI l := by
  have : ∀ l : List Ins, sumM (fun _ => 1) l = l.length := by
    intro l; induction l with
    | nil => rfl
    | cons x xs ih => simp only [sumM, List.length_cons, ih]; omega
  unfold wI; rw [this]; omega
def wC (c : Cod) : Nat := wI c.c0 + wI c.c1 + wI c.c2 + wI c.c3 + wI c.c4
abbrev cCod (c : Cod) : List PV := [.rs 3 (c.c0.map encI), .rs 3 (c.c1.map encI), .rs 3 (c.c2.map encI), .rs 3 (c.c3.map encI), .rs 3 (c.c4.map encI)]
theorem rdC5 : ∀ n, Rd Tryd.prog bk n 24 cCod wC (fun _ => True) := by
  intro n
  cases n with
  | zero => exact Rd.zero
  | succ n =>
    intro H e w sp hd fuel cs x hn h hlt
    obtain ⟨xs, m, hm, hc, hx, hb, hf, hl⟩ := trod_items bulk Tryd.underlying24 hn h hlt
    rw [show Tryd.prog.cellsOf 24 = 5 from by kernel_rfl] at hc
    obtain ⟨x0, x1, x2, x3, x4, rfl⟩ : ∃ x0  x1  x2  x3  x4, xs = [x0, x1, x2, x3, x4] := by
      match xs, hx with | [x0, x1, x2, x3, x4], _ => exact ⟨x0, x1, x2, x3, x4, rfl⟩
    obtain ⟨c0, c1, c2, c3, c4, rfl⟩ : ∃ c0  c1  c2  c3  c4, cs = [c0, c1, c2, c3, c4] := by
      match cs, hc with | [c0, c1, c2, c3, c4], _ => exact ⟨c0, c1, c2, c3, c4, rfl⟩
    simp only [List.map_cons, List.map_nil, bulk.lcons, bulk.lnil] at hb
    have f0 := hf 0 (by omega)
    have f1 := hf 1 (by omega)
    have f2 := hf 2 (by omega)
    have f3 := hf 3 (by omega)
    have f4 := hf 4 (by omega)
    simp only [show Tryd.prog.cellsOf 23 = 1 from by kernel_rfl, Nat.reduceMul, List.drop_zero, List.drop_succ_cons, List.take_succ_cons, List.take_zero, List.getElem?_cons_zero, List.getElem?_cons_succ] at f0 f1 f2 f3 f4
    obtain ⟨a0, r0, m0, p0⟩ := rdIns n hm f0 (hl x0 (by simp))
    obtain ⟨a1, r1, m1, p1⟩ := rdIns n hm f1 (hl x1 (by simp))
    obtain ⟨a2, r2, m2, p2⟩ := rdIns n hm f2 (hl x2 (by simp))
    obtain ⟨a3, r3, m3, p3⟩ := rdIns n hm f3 (hl x3 (by simp))
    obtain ⟨a4, r4, m4, p4⟩ := rdIns n hm f4 (hl x4 (by simp))
    dsimp only at m0 m1 m2 m3 m4
    refine ⟨⟨a0, a1, a2, a3, a4⟩, r0.append (r1.append (r2.append (r3.append (r4)))), ?_, trivial⟩
    simp only [wC, wI]; omega
theorem rdC : ∀ n, Rd Tryd.prog bk n 26 cCod wC (fun _ => True) := by
  intro n
  induction n with
  | zero => exact Rd.zero
  | succ n ih =>
    intro H e w sp hd fuel cs x hn h hlt
    obtain ⟨xs, m, hm, hc, hx, hb, hf, hl⟩ := trod_fields bulk Tryd.underlying26 hn h hlt
    rw [show Tryd.prog.cellsOf 26 = 5 from by kernel_rfl] at hc
    obtain ⟨x0, rfl⟩ : ∃ x0, xs = [x0] := by
      match xs, hx with | [x0], _ => exact ⟨x0, rfl⟩
    obtain ⟨c0, c1, c2, c3, c4, rfl⟩ : ∃ c0 c1 c2 c3 c4, cs = [c0, c1, c2, c3, c4] := by
      match cs, hc with | [c0, c1, c2, c3, c4], _ => exact ⟨c0, c1, c2, c3, c4, rfl⟩
    simp only [List.map_cons, List.map_nil, bulk.lcons, bulk.lnil] at hb
    have f0 := hf 0 _ rfl
    simp only [show Tryd.prog.cellsOf 24 = 5 from by kernel_rfl, List.drop_zero, List.drop_succ_cons, List.take_succ_cons, List.take_zero, List.getElem?_cons_zero, List.getElem?_cons_succ] at f0
    obtain ⟨a0, r0, m0, p0⟩ := (rdC5 n) hm f0 (hl x0 (by simp))
    (try dsimp only at m0)
    refine ⟨a0, ?_, ?_, trivial⟩
    · exact r0
    · omega
abbrev I4 := Int × Int × Int × Int
theorem rdI4 : ∀ n, Rd Tryd.prog bk n 28 (fun a : I4 => [.i a.1, .i a.2.1, .i a.2.2.1, .i a.2.2.2]) (fun _ => 1) (fun _ => True) := by
  intro n
  cases n with
  | zero => exact Rd.zero
  | succ n =>
    intro H e w sp hd fuel cs x hn h hlt
    obtain ⟨xs, m, hm, hc, hx, hb, hf, hl⟩ := trod_items bulk Tryd.underlying28 hn h hlt
    rw [show Tryd.prog.cellsOf 28 = 4 from by kernel_rfl] at hc
    obtain ⟨x0, x1, x2, x3, rfl⟩ : ∃ x0  x1  x2  x3, xs = [x0, x1, x2, x3] := by
      match xs, hx with | [x0, x1, x2, x3], _ => exact ⟨x0, x1, x2, x3, rfl⟩
    obtain ⟨c0, c1, c2, c3, rfl⟩ : ∃ c0  c1  c2  c3, cs = [c0, c1, c2, c3] := by
      match cs, hc with | [c0, c1, c2, c3], _ => exact ⟨c0, c1, c2, c3, rfl⟩
    simp only [List.map_cons, List.map_nil, bulk.lcons, bulk.lnil] at hb
    have f0 := hf 0 (by omega)
    have f1 := hf 1 (by omega)
    have f2 := hf 2 (by omega)
    have f3 := hf 3 (by omega)
    simp only [show Tryd.prog.cellsOf 3 = 1 from by kernel_rfl, Nat.reduceMul, List.drop_zero, List.drop_succ_cons, List.take_succ_cons, List.take_zero, List.getElem?_cons_zero, List.getElem?_cons_succ] at f0 f1 f2 f3
    obtain ⟨a0, r0, m0, p0⟩ := Rd.int bulk (n := n) Tryd.underlying3 hm f0 (hl x0 (by simp))
    obtain ⟨a1, r1, m1, p1⟩ := Rd.int bulk (n := n) Tryd.underlying3 hm f1 (hl x1 (by simp))
    obtain ⟨a2, r2, m2, p2⟩ := Rd.int bulk (n := n) Tryd.underlying3 hm f2 (hl x2 (by simp))
    obtain ⟨a3, r3, m3, p3⟩ := Rd.int bulk (n := n) Tryd.underlying3 hm f3 (hl x3 (by simp))
    dsimp only at m0 m1 m2 m3
    refine ⟨(a0, a1, a2, a3), r0.append (r1.append (r2.append (r3))), ?_, trivial⟩
    dsimp only; omega
abbrev cCal (x : Cal) : List PV := [.i x.ev, .i x.i0, .i x.i1, .i x.i2, .i x.i3]
theorem rdL : ∀ n, Rd Tryd.prog bk n 30 cCal (fun _ => 1) (fun _ => True) := by
  intro n
  induction n with
  | zero => exact Rd.zero
  | succ n ih =>
    intro H e w sp hd fuel cs x hn h hlt
    obtain ⟨xs, m, hm, hc, hx, hb, hf, hl⟩ := trod_fields bulk Tryd.underlying30 hn h hlt
    rw [show Tryd.prog.cellsOf 30 = 5 from by kernel_rfl] at hc
    obtain ⟨x0, x1, rfl⟩ : ∃ x0 x1, xs = [x0, x1] := by
      match xs, hx with | [x0, x1], _ => exact ⟨x0, x1, rfl⟩
    obtain ⟨c0, c1, c2, c3, c4, rfl⟩ : ∃ c0 c1 c2 c3 c4, cs = [c0, c1, c2, c3, c4] := by
      match cs, hc with | [c0, c1, c2, c3, c4], _ => exact ⟨c0, c1, c2, c3, c4, rfl⟩
    simp only [List.map_cons, List.map_nil, bulk.lcons, bulk.lnil] at hb
    have f0 := hf 0 _ rfl
    have f1 := hf 1 _ rfl
    simp only [show Tryd.prog.cellsOf 28 = 4 from by kernel_rfl, show Tryd.prog.cellsOf 3 = 1 from by kernel_rfl, List.drop_zero, List.drop_succ_cons, List.take_succ_cons, List.take_zero, List.getElem?_cons_zero, List.getElem?_cons_succ] at f0 f1
    obtain ⟨a0, r0, m0, p0⟩ := (Rd.int bulk (n := n) Tryd.underlying3) hm f0 (hl x0 (by simp))
    obtain ⟨a1, r1, m1, p1⟩ := (rdI4 n) hm f1 (hl x1 (by simp))
    (try dsimp only at m0); (try dsimp only at m1)
    refine ⟨⟨a0, a1.1, a1.2.1, a1.2.2.1, a1.2.2.2⟩, ?_, ?_, trivial⟩
    · exact r0.append (r1)
    · dsimp only; omega
end Go.Proofs.YtimmncjdknlegaaDoor.Y
