/- Part 3 of the proofs of seat YtpfjlifneibhfaaGreat: what the texts behind it lean on (abstract memory, walks of functions, plain laws). -/
import Derived.Test.YtpfjlifneibhfaaGreatB2
set_option linter.unusedSectionVars false
set_option linter.unusedSimpArgs false
set_option linter.unusedVariables false
set_option maxHeartbeats 100000000
set_option maxRecDepth 100000
namespace Go.Proofs.YtpfjlifneibhfaaGreat.Y
open Go.Proofs.YtpfjlifneibhfaaGreat.AL Go.Proofs Go
attribute [local irreducible] AWP AWL AWG AWR AWE AWX AWO AWSeq AWSG AWSR AWSO AWSE AWSF GoodP OGW OGR OGE OGX PGW PGR PGE Wk AWLoop AWPD AWLD
theorem dr38_8_X30c : Drawn Tryz.prog 8 (regOps 8 ((Tryz.f38.body).getD .skip)) [] [] [.win [0], .win [0], .win [0], .win [0], .win [0], .win [0], .win [0], .win [0], .win [0], .win [0], .win [0], .win [0]] 0 [] := ⟨rfl, by as_aux_lemma => kernel_rfl⟩
theorem dr38_11_X30c : Drawn Tryz.prog 11 (regOps 11 ((Tryz.f38.body).getD .skip)) [7] [] [.win [0], .win [0], .win [0], .win [0], .win [0], .win [0], .win [0], .eff 0, .win [1]] 1 [] := ⟨rfl, by as_aux_lemma => kernel_rfl⟩
theorem dr38_16_X30c : Drawn Tryz.prog 16 (regOps 16 ((Tryz.f38.body).getD .skip)) [] [] [.win [0], .win [0], .win [0], .win [0], .win [0], .win [0], .win [0], .win [0], .win [0], .win [0], .win [0], .win [0], .win [0], .win [0], .win [0], .win [0], .win [0], .win [0], .win [0]] 0 [] := ⟨rfl, by as_aux_lemma => kernel_rfl⟩
theorem dr38_17_X30c : Drawn Tryz.prog 17 (regOps 17 ((Tryz.f38.body).getD .skip)) [] [] [.win [0], .win [0], .win [0], .win [0], .win [0], .win [0], .win [0], .win [0], .win [0]] 0 [] := ⟨rfl, by as_aux_lemma => kernel_rfl⟩
theorem dr38_19_X30c : Drawn Tryz.prog 19 (regOps 19 ((Tryz.f38.body).getD .skip)) [] [] [.win [0], .win [0], .win [0], .win [0], .win [0], .win [0], .win [0], .win [0]] 0 [] := ⟨rfl, by as_aux_lemma => kernel_rfl⟩
/-- What an evaluation comes to. -/
def outV (r : Except Int Int) (H : List AObj) : AOut := match r with
  | .ok v => .ret (.i v) H
  | .error x => .pan (xF x) H
/-- A frame lies in the memory. -/
structure Frm (fid mid : Nat) (H : List AObj) (V ST : AV) (i0 i1 i2 i3 : Int) : Prop where
  f : H[fid]? = some (.cells 68 [V, ST, .i i0, .i i1, .i i2, .i i3, .mp mid])
  m : H[mid]? = some (.imap opsT)
theorem Frm.app {fid mid : Nat} {H : List AObj} {V ST : AV} {i0 i1 i2 i3 : Int} (h : Frm fid mid H V ST i0 i1 i2 i3) (L : List AObj) : Frm fid mid (H ++ L) V ST i0 i1 i2 i3 := ⟨getOut h.f L, getOut h.m L⟩
abbrev nR (l : List Int) : List (List AV) := pvRows (rI l)
theorem nR_len (l : List Int) : (nR l).length = l.length := by simp [pvRows]
theorem nR_one (l : List Int) (n : Int) : nR l ++ [[.i n]] = nR (l ++ [n]) := by simp [pvRows]
theorem look_no {op : Int} (h : ¬ (4 ≤ op ∧ op ≤ 10)) : lookI opsT op = none := by
  simp only [lookI, opsT, findI]
  rw [if_neg (by omega), if_neg (by omega), if_neg (by omega), if_neg (by omega), if_neg (by omega), if_neg (by omega), if_neg (by omega)]
  rfl
theorem valEs_snoc {st : List Int} {i0 i1 i2 i3 : Int} : ∀ {l : List Ex} {acc : List Int} {e : Ex} {v : Int}, valEs st i0 i1 i2 i3 l = .ok acc → valE st i0 i1 i2 i3 e = .ok v → valEs st i0 i1 i2 i3 (l ++ [e]) = .ok (acc ++ [v])
  | [], acc, e, v, h, k => by simp only [valEs, Except.ok.injEq] at h; subst h; simp [valEs, k]
  | x :: xs, acc, e, v, h, k => by
    simp only [valEs] at h
    split at h
    · cases h
    · rename_i a ha
      split at h
      · cases h
      · rename_i l' hl'
        simp only [Except.ok.injEq] at h
        subst h
        simp only [List.cons_append, valEs, ha, valEs_snoc hl' k]
theorem valEs_fail {st : List Int} {i0 i1 i2 i3 : Int} : ∀ {l : List Ex} {acc : List Int} {e : Ex} {x : Int} {r : List Ex}, valEs st i0 i1 i2 i3 l = .ok acc → valE st i0 i1 i2 i3 e = .error x → valEs st i0 i1 i2 i3 (l ++ e :: r) = .error x
  | [], acc, e, x, r, h, k => by simp [valEs, k]
  | y :: ys, acc, e, x, r, h, k => by
    simp only [valEs] at h
    split at h
    · cases h
    · rename_i a ha
      split at h
      · cases h
      · rename_i l' hl'
        simp only [List.cons_append, valEs, ha, valEs_fail hl' k]
theorem valEs_isV {st : List Int} {i0 i1 i2 i3 : Int} : ∀ {es : List Ex} {l : List Int}, valEs st i0 i1 i2 i3 es = .ok l → ∀ v ∈ l, isV v
  | [], l, h => by simp only [valEs, Except.ok.injEq] at h; subst h; simp
  | e :: es, l, h => by
    simp only [valEs] at h
    split at h
    · cases h
    · rename_i a ha
      split at h
      · cases h
      · rename_i l' hl'
        simp only [Except.ok.injEq] at h
        subst h
        intro v hv
        rcases List.mem_cons.1 hv with rfl | hv
        · exact valE_isV ha
        · exact valEs_isV hl' v hv
theorem zF : aZero1 Tryz.prog 83 = some .nilFunc := by kernel_rfl
theorem isV_ok {n : Int} (h : isV n) (H0 : List AObj) : ARun Tryz.prog 65 [.i n] H0 (.ret (.b true) H0) := by
  have := isValue_run n H0; rwa [decide_eq_true h] at this
theorem isV_no {n : Int} (h : ¬ isV n) (H0 : List AObj) : ARun Tryz.prog 65 [.i n] H0 (.ret (.b false) H0) := by
  have := isValue_run n H0; rwa [decide_eq_false h] at this
theorem ofMap_nil : AV.ofMap .nilFunc = .sc .nilFunc := rfl
theorem value_rs (st : List Int) (i0 i1 i2 i3 : Int) (hst : st.length ≤ 1000000) (e : Ex) : nodes e ≤ 1000000 → ∀ (fid mid : Nat) (V : AV) (H0 : List AObj), Frm fid mid H0 V (.rs 1 (rI st)) i0 i1 i2 i3 →
    ARun Tryz.prog 38 [.p fid 0, .ag (cE e)] H0 (outV (valE st i0 i1 i2 i3 e) H0) := by
  induction e using Ex.ind with
  | h e ih =>
    intro hn fid mid V H0 hF
    rw [nodes_eq] at hn
    have hkl := len_nodesL e.kids
    have hfl := (List.getElem?_eq_some_iff.1 hF.f).1
    have gf := fun L => (hF.app L).f
    have gm := fun L => (hF.app L).m
    have fo := fun e H => fail_ok e H
    have fp := fun e H => fail_pan e H
    (refine ARun.intro Tryz.func38 rfl Tryz.call38 Tryz.ntmps38 Tryz.results38 ?_; simp only [List.length_cons, List.length_nil, List.length_map, Nat.reduceAdd, Nat.reduceSub, List.replicate_succ, List.replicate_zero, List.cons_append, List.nil_append])
    refine awp_len_agg 1 3 rfl rfl fun hlen => ?_
    rw [List.length_map] at hlen
    have lw : (e.kids.map encE).length = e.kids.length := List.length_map encE
    (have rr1 := dr38_8_X30c; have rr2 := dr38_11_X30c; have rr3 := dr38_16_X30c; have rr4 := dr38_17_X30c; have rr5 := dr38_19_X30c; have ww1 := lw; refine wk ?_; clear rr1 rr2 rr3 rr4 rr5 ww1; (repeat' first | exact True.intro | refine Lf.mk ?_ ?_); all_goals intro hP)
    refine awp_loop_ind (σ := Nat × List Int) (fun s => e.kids.length - s.1) (fun s => s.1 ≤ e.kids.length ∧ s.2.length = s.1 ∧ valEs st i0 i1 i2 i3 (e.kids.take s.1) = .ok s.2)
      (fun s => (.p fid 0 :: .any :: .any :: .p H0.length 0 :: .any :: .os (H0.length + 1) 0 s.2.length s.2.length :: .any :: .any :: .any :: .any :: .any :: .any :: .rs 4 (e.kids.map encE) :: .i e.kids.length :: .i s.1 :: .any :: .any :: .any :: .any :: .any :: .any :: .any :: .any :: .any :: .any :: .any :: .any :: .any :: .any :: .any :: .any :: .any :: .any :: .any :: .any :: .any :: .any :: .any :: .any :: .any :: .any :: .any :: .any :: .any :: .any :: .any :: .any :: .any :: .any :: .any :: .any :: .any :: .any :: .any :: .any :: .any :: .any :: .any :: .any :: .any :: .any :: .any :: .any :: .any :: .any :: .any :: .any :: .any :: .any :: .any :: .any :: .any :: .any :: .any :: .any :: .any :: .any :: .any :: .any :: .any :: .any :: .any :: .any :: .any :: .any :: .any :: .any :: .any :: .any :: .any :: .any :: .any :: .any :: .any :: .any :: .any :: .any :: .any :: .any :: .any :: .any :: .any :: .any :: .any :: .any :: .any :: .any :: .any :: .any :: .any :: .any :: .any :: []))
      (fun s => H0 ++ [.cells 33 [.i e.op, .i e.n, .i e.unit, .rs 4 (e.kids.map encE)], .arr 3 1 (nR s.2)]) (0, []) ⟨Nat.zero_le _, rfl, rfl⟩ (Wk.ghostL 5 1 3 (sz := 1) (by omega) rfl rfl rfl (by (refine fgX ?_; try exact True.intro))) ?_
    rintro ⟨i, acc⟩ ⟨h1, h2, h4⟩
    simp only at h1 h2 h4 ⊢
    have ln := nR_len acc
    cases hr : e.kids.drop i with
    | nil =>
      have hlt := drop_nil hr
      have hik : i = e.kids.length := by have := List.drop_eq_nil_iff.1 hr; omega
      have hE : valE st i0 i1 i2 i3 e = nodeV st i0 i1 i2 i3 e.op e.n acc := by
        rw [hik, List.take_length] at h4
        rw [valE_eq, h4]
      rw [hE]
      clear hE
      have hall := valEs_isV h4
      by_cases hop : 4 ≤ e.op ∧ e.op ≤ 10
      · by_cases hl2 : acc.length = 2
        · obtain ⟨a, b, rfl⟩ : ∃ a b, acc = [a, b] := by match acc, hl2 with | [a, b], _ => exact ⟨a, b, rfl⟩
          have ha : isV a := hall a (by simp)
          have hb' : isV b := hall b (by simp)
          have hn2 : nodeV st i0 i1 i2 i3 e.op e.n [a, b] = calcS e.op a b := by unfold nodeV; rw [if_pos hop]
          rw [hn2]
          have ra : (nR [a, b])[0]? = some [.i a] := rfl
          have ln2 : (nR [a, b]).length = 2 := rfl
          have rb : (nR [a, b])[1]? = some [.i b] := rfl
          have hop2 : e.op = 4 ∨ e.op = 5 ∨ e.op = 6 ∨ e.op = 7 ∨ e.op = 8 ∨ e.op = 9 ∨ e.op = 10 := by omega
          clear ih hn2 hop hall h4 hn hkl
          rcases hop2 with hop' | hop' | hop' | hop' | hop' | hop' | hop'
          · have hlk : lookI opsT 4 = some (.func (.func 56) #[] #[]) := rfl
            rw [hop']
            rw [show calcS 4 a b = valS (a + b) by simp [calcS]]
            have cO := fun H => op1_run a b ha hb' H
            by_cases hv : isV (a + b)
            · have cI := fun H => isV_ok hv H
              rw [show valS (a + b) = .ok (a + b) from if_pos hv]
              (have rr1 := dr38_8_X30c; have rr2 := dr38_11_X30c; have rr3 := dr38_16_X30c; have rr4 := dr38_17_X30c; have rr5 := dr38_19_X30c; have ww1 := hlt; have ww2 := hop'; have ww3 := hlk; have ww4 := gf; have ww5 := gm; have ww6 := ra; have ww7 := rb; have ww8 := @zF; have ww9 := @ofMap_fn; have ww10 := ln2; have cc1 := fun z1 z2 => fo z1 z2; have cc2 := fun z1 => cO z1; have cc3 := fun z1 => cI z1; refine wk ?_; clear rr1 rr2 rr3 rr4 rr5 ww1 ww2 ww3 ww4 ww5 ww6 ww7 ww8 ww9 ww10 cc1 cc2 cc3; (repeat' first | exact True.intro | refine Lf.mk ?_ ?_); all_goals intro hP)
              (unfold outV; (refine resX ?_; try exact True.intro))
            · have cI := fun H => isV_no hv H
              rw [show valS (a + b) = .error 3 from if_neg hv]
              (have rr1 := dr38_8_X30c; have rr2 := dr38_11_X30c; have rr3 := dr38_16_X30c; have rr4 := dr38_17_X30c; have rr5 := dr38_19_X30c; have ww1 := hlt; have ww2 := hop'; have ww3 := hlk; have ww4 := gf; have ww5 := gm; have ww6 := ra; have ww7 := rb; have ww8 := @zF; have ww9 := @ofMap_fn; have ww10 := ln2; have cc1 := fun z1 z2 => fo z1 z2; have cc2 := fun z1 z2 => fp z1 z2; have cc3 := fun z1 => cO z1; have cc4 := fun z1 => cI z1; refine wk ?_; clear rr1 rr2 rr3 rr4 rr5 ww1 ww2 ww3 ww4 ww5 ww6 ww7 ww8 ww9 ww10 cc1 cc2 cc3 cc4; (repeat' first | exact True.intro | refine Lf.mk ?_ ?_); all_goals intro hP)
              (unfold outV; (refine panX ?_; try exact True.intro))
          · have hlk : lookI opsT 5 = some (.func (.func 57) #[] #[]) := rfl
            rw [hop']
            rw [show calcS 5 a b = valS (a - b) by simp [calcS]]
            have cO := fun H => op2_run a b ha hb' H
            by_cases hv : isV (a - b)
            · have cI := fun H => isV_ok hv H
              rw [show valS (a - b) = .ok (a - b) from if_pos hv]
              (have rr1 := dr38_8_X30c; have rr2 := dr38_11_X30c; have rr3 := dr38_16_X30c; have rr4 := dr38_17_X30c; have rr5 := dr38_19_X30c; have ww1 := hlt; have ww2 := hop'; have ww3 := hlk; have ww4 := gf; have ww5 := gm; have ww6 := ra; have ww7 := rb; have ww8 := @zF; have ww9 := @ofMap_fn; have ww10 := ln2; have cc1 := fun z1 z2 => fo z1 z2; have cc2 := fun z1 => cO z1; have cc3 := fun z1 => cI z1; refine wk ?_; clear rr1 rr2 rr3 rr4 rr5 ww1 ww2 ww3 ww4 ww5 ww6 ww7 ww8 ww9 ww10 cc1 cc2 cc3; (repeat' first | exact True.intro | refine Lf.mk ?_ ?_); all_goals intro hP)
              (unfold outV; (refine resX ?_; try exact True.intro))
            · have cI := fun H => isV_no hv H
              rw [show valS (a - b) = .error 3 from if_neg hv]
              (have rr1 := dr38_8_X30c; have rr2 := dr38_11_X30c; have rr3 := dr38_16_X30c; have rr4 := dr38_17_X30c; have rr5 := dr38_19_X30c; have ww1 := hlt; have ww2 := hop'; have ww3 := hlk; have ww4 := gf; have ww5 := gm; have ww6 := ra; have ww7 := rb; have ww8 := @zF; have ww9 := @ofMap_fn; have ww10 := ln2; have cc1 := fun z1 z2 => fo z1 z2; have cc2 := fun z1 z2 => fp z1 z2; have cc3 := fun z1 => cO z1; have cc4 := fun z1 => cI z1; refine wk ?_; clear rr1 rr2 rr3 rr4 rr5 ww1 ww2 ww3 ww4 ww5 ww6 ww7 ww8 ww9 ww10 cc1 cc2 cc3 cc4; (repeat' first | exact True.intro | refine Lf.mk ?_ ?_); all_goals intro hP)
              (unfold outV; (refine panX ?_; try exact True.intro))
          · have hlk : lookI opsT 6 = some (.func (.func 58) #[] #[]) := rfl
            rw [hop']
            rw [show calcS 6 a b = valS (prodS a b) by simp [calcS]]
            by_cases hv : isV (prodS a b)
            · have cI := fun H => isV_ok hv H
              have cO := fun H => op3_ok a b ha hb' hv H
              rw [show valS (prodS a b) = .ok (prodS a b) from if_pos hv]
              (have rr1 := dr38_8_X30c; have rr2 := dr38_11_X30c; have rr3 := dr38_16_X30c; have rr4 := dr38_17_X30c; have rr5 := dr38_19_X30c; have ww1 := hlt; have ww2 := hop'; have ww3 := hlk; have ww4 := gf; have ww5 := gm; have ww6 := ra; have ww7 := rb; have ww8 := @zF; have ww9 := @ofMap_fn; have ww10 := ln2; have cc1 := fun z1 z2 => fo z1 z2; have cc2 := fun z1 => cO z1; have cc3 := fun z1 => cI z1; refine wk ?_; clear rr1 rr2 rr3 rr4 rr5 ww1 ww2 ww3 ww4 ww5 ww6 ww7 ww8 ww9 ww10 cc1 cc2 cc3; (repeat' first | exact True.intro | refine Lf.mk ?_ ?_); all_goals intro hP)
              (unfold outV; (refine resX ?_; try exact True.intro))
            · have cO := fun H => op3_bad a b ha hb' hv H
              rw [show valS (prodS a b) = .error 3 from if_neg hv]
              repeat' (first | refine awp_seq ?_ | refine awp_block ?_ | refine awp_scope ?_ | ((first | refine awp_region_k fun Kn Kp hn hp => ?_ | show AWP _ _ (Code.region 8 _ true) _ _ _; refine awp_drawn_k (id := 8) [] [] [.win [0], .win [0], .win [0], .win [0], .win [0], .win [0], .win [0], .win [0], .win [0], .win [0], .win [0], .win [0]] 0 rfl (by as_aux_lemma => kernel_rfl) fun Kn Kp hn hp => ?_ | show AWP _ _ (Code.region 11 _ true) _ _ _; refine awp_drawn_k (id := 11) [7] [7] [.win [0], .win [0], .win [0], .win [0], .win [0], .win [0], .win [0], .pan [0], .skip] 1 rfl (by as_aux_lemma => kernel_rfl) fun Kn Kp hn hp => ?_ | show AWP _ _ (Code.region 16 _ true) _ _ _; refine awp_drawn_k (id := 16) [] [] [.win [0], .win [0], .win [0], .win [0], .win [0], .win [0], .win [0], .win [0], .win [0], .win [0], .win [0], .win [0], .win [0], .win [0], .win [0], .win [0], .win [0], .win [0], .win [0]] 0 rfl (by as_aux_lemma => kernel_rfl) fun Kn Kp hn hp => ?_ | show AWP _ _ (Code.region 17 _ true) _ _ _; refine awp_drawn_k (id := 17) [] [] [.win [0], .win [0], .win [0], .win [0], .win [0], .win [0], .win [0], .win [0], .win [0]] 0 rfl (by as_aux_lemma => kernel_rfl) fun Kn Kp hn hp => ?_ | show AWP _ _ (Code.region 19 _ true) _ _ _; refine awp_drawn_k (id := 19) [] [] [.win [0], .win [0], .win [0], .win [0], .win [0], .win [0], .win [0], .win [0]] 0 rfl (by as_aux_lemma => kernel_rfl) fun Kn Kp hn hp => ?_ | refine oge_intro (by assumption) ?_ | (show AWE _ _ _ _ _ _ _ _ _; first | refine awe_intro (fo _ _) ?_ | refine awe_intro (cO _) ?_) | (show AWSF _ _ _ _ _ _ _ _ _ _ _; first | refine awsf_intro (fo _ _) (fun hrun => ?_) | refine awsf_intro (cO _) (fun hrun => ?_)) | (show OGE _ _ _ _ _ _ _; first | refine oge_intro (fo _ _) ?_ | refine oge_intro (cO _) ?_) | (show AWSE _ _ _ _ _ _ _ _ _ _ _; first | refine awse_intro (fo _ _) (fun hrun => ?_) | refine awse_intro (cO _) (fun hrun => ?_)) | (show PGE _ _ _ _ _; first | refine pge_intro (fo _ _) (fun tm' => ?_) | refine pge_intro (cO _) (fun tm' => ?_))) <;> (simp only [go_sem, Nat.reduceAdd, Nat.reduceSub, Nat.reduceMul, Nat.reduceLeDiff, Nat.reduceLT, Nat.reduceEqDiff, Int.reduceToNat, Int.reduceAdd, Int.reduceMul, Int.reduceSub, Int.reduceLT, Int.reduceLE, Int.reduceEq, Int.reduceNeg, Int.reduceBEq, Int.reduceBNe, ↓reduceIte, reduceCtorEq, hlt, hop', hlk, gf, gm, ra, rb, zF, ofMap_fn, ln2] <;> try simp (disch := omega) only [wrap_of])) | (refine hn _ _ ?_; clear hn hp Kn Kp) | (refine hp _ _ _ ?_; clear hn hp Kn Kp) | (refine awp_cond rfl (fun hb => ?_) (fun hb => ?_) <;> (try simp only [decide_eq_true_eq, decide_eq_false_iff_not, Bool.not_eq_true', Bool.not_eq_false', Bool.true_eq_false, Bool.false_eq_true, beq_iff_eq, bne_iff_ne, bne_eq_false_iff_eq, beq_eq_false_iff_ne, gt_iff_lt, ge_iff_le, Int.reduceEq, Int.reduceNe, Int.reduceLT, Int.reduceLE, ne_eq, not_true_eq_false, not_false_eq_true] at hb)) | ((first | refine awg_split (fun hb => ?_) (fun hb => ?_) | refine awsg_split (fun hb => ?_) (fun hb => ?_)) <;> have hb0 := hb <;> (try simp only [decide_eq_true_eq, decide_eq_false_iff_not, Bool.not_eq_true', Bool.not_eq_false', Bool.true_eq_false, Bool.false_eq_true, beq_iff_eq, bne_iff_ne, bne_eq_false_iff_eq, beq_eq_false_iff_ne, gt_iff_lt, ge_iff_le, Int.reduceEq, Int.reduceNe, Int.reduceLT, Int.reduceLE, ne_eq, not_true_eq_false, not_false_eq_true] at hb0) <;> (try simp only [beq_true, beq_false, Bool.not_eq_true', Bool.not_eq_false'] at hb) <;> (simp only [go_sem, Nat.reduceAdd, Nat.reduceSub, Nat.reduceMul, Nat.reduceLeDiff, Nat.reduceLT, Nat.reduceEqDiff, Int.reduceToNat, Int.reduceAdd, Int.reduceMul, Int.reduceSub, Int.reduceLT, Int.reduceLE, Int.reduceEq, Int.reduceNeg, Int.reduceBEq, Int.reduceBNe, ↓reduceIte, reduceCtorEq, hlt, hop', hlk, gf, gm, ra, rb, zF, ofMap_fn, ln2, hb, hb0] <;> try simp (disch := omega) only [wrap_of])) | (refine And.intro ?_ ?_) | refine awp_skip ?_ | refine awp_ret ?_ | refine awp_exit ?_ | refine awp_label ?_ | refine awloop_step ?_ | fail)
              (unfold outV; (refine panX ?_; try exact True.intro))
          · have hlk : lookI opsT 7 = some (.func (.func 60) #[] #[]) := rfl
            rw [hop']
            by_cases h0 : b = 0
            · subst h0
              rw [show calcS 7 a 0 = .error 14 by simp [calcS]]
              have cO := fun H => op4_bad a H
              repeat' (first | refine awp_seq ?_ | refine awp_block ?_ | refine awp_scope ?_ | ((first | refine awp_region_k fun Kn Kp hn hp => ?_ | show AWP _ _ (Code.region 8 _ true) _ _ _; refine awp_drawn_k (id := 8) [] [] [.win [0], .win [0], .win [0], .win [0], .win [0], .win [0], .win [0], .win [0], .win [0], .win [0], .win [0], .win [0]] 0 rfl (by as_aux_lemma => kernel_rfl) fun Kn Kp hn hp => ?_ | show AWP _ _ (Code.region 11 _ true) _ _ _; refine awp_drawn_k (id := 11) [7] [7] [.win [0], .win [0], .win [0], .win [0], .win [0], .win [0], .win [0], .pan [0], .skip] 1 rfl (by as_aux_lemma => kernel_rfl) fun Kn Kp hn hp => ?_ | show AWP _ _ (Code.region 16 _ true) _ _ _; refine awp_drawn_k (id := 16) [] [] [.win [0], .win [0], .win [0], .win [0], .win [0], .win [0], .win [0], .win [0], .win [0], .win [0], .win [0], .win [0], .win [0], .win [0], .win [0], .win [0], .win [0], .win [0], .win [0]] 0 rfl (by as_aux_lemma => kernel_rfl) fun Kn Kp hn hp => ?_ | show AWP _ _ (Code.region 17 _ true) _ _ _; refine awp_drawn_k (id := 17) [] [] [.win [0], .win [0], .win [0], .win [0], .win [0], .win [0], .win [0], .win [0], .win [0]] 0 rfl (by as_aux_lemma => kernel_rfl) fun Kn Kp hn hp => ?_ | show AWP _ _ (Code.region 19 _ true) _ _ _; refine awp_drawn_k (id := 19) [] [] [.win [0], .win [0], .win [0], .win [0], .win [0], .win [0], .win [0], .win [0]] 0 rfl (by as_aux_lemma => kernel_rfl) fun Kn Kp hn hp => ?_ | refine oge_intro (by assumption) ?_ | (show AWE _ _ _ _ _ _ _ _ _; first | refine awe_intro (fo _ _) ?_ | refine awe_intro (cO _) ?_) | (show AWSF _ _ _ _ _ _ _ _ _ _ _; first | refine awsf_intro (fo _ _) (fun hrun => ?_) | refine awsf_intro (cO _) (fun hrun => ?_)) | (show OGE _ _ _ _ _ _ _; first | refine oge_intro (fo _ _) ?_ | refine oge_intro (cO _) ?_) | (show AWSE _ _ _ _ _ _ _ _ _ _ _; first | refine awse_intro (fo _ _) (fun hrun => ?_) | refine awse_intro (cO _) (fun hrun => ?_)) | (show PGE _ _ _ _ _; first | refine pge_intro (fo _ _) (fun tm' => ?_) | refine pge_intro (cO _) (fun tm' => ?_))) <;> (simp only [go_sem, Nat.reduceAdd, Nat.reduceSub, Nat.reduceMul, Nat.reduceLeDiff, Nat.reduceLT, Nat.reduceEqDiff, Int.reduceToNat, Int.reduceAdd, Int.reduceMul, Int.reduceSub, Int.reduceLT, Int.reduceLE, Int.reduceEq, Int.reduceNeg, Int.reduceBEq, Int.reduceBNe, ↓reduceIte, reduceCtorEq, hlt, hop', hlk, gf, gm, ra, rb, zF, ofMap_fn, ln2] <;> try simp (disch := omega) only [wrap_of])) | (refine hn _ _ ?_; clear hn hp Kn Kp) | (refine hp _ _ _ ?_; clear hn hp Kn Kp) | (refine awp_cond rfl (fun hb => ?_) (fun hb => ?_) <;> (try simp only [decide_eq_true_eq, decide_eq_false_iff_not, Bool.not_eq_true', Bool.not_eq_false', Bool.true_eq_false, Bool.false_eq_true, beq_iff_eq, bne_iff_ne, bne_eq_false_iff_eq, beq_eq_false_iff_ne, gt_iff_lt, ge_iff_le, Int.reduceEq, Int.reduceNe, Int.reduceLT, Int.reduceLE, ne_eq, not_true_eq_false, not_false_eq_true] at hb)) | ((first | refine awg_split (fun hb => ?_) (fun hb => ?_) | refine awsg_split (fun hb => ?_) (fun hb => ?_)) <;> have hb0 := hb <;> (try simp only [decide_eq_true_eq, decide_eq_false_iff_not, Bool.not_eq_true', Bool.not_eq_false', Bool.true_eq_false, Bool.false_eq_true, beq_iff_eq, bne_iff_ne, bne_eq_false_iff_eq, beq_eq_false_iff_ne, gt_iff_lt, ge_iff_le, Int.reduceEq, Int.reduceNe, Int.reduceLT, Int.reduceLE, ne_eq, not_true_eq_false, not_false_eq_true] at hb0) <;> (try simp only [beq_true, beq_false, Bool.not_eq_true', Bool.not_eq_false'] at hb) <;> (simp only [go_sem, Nat.reduceAdd, Nat.reduceSub, Nat.reduceMul, Nat.reduceLeDiff, Nat.reduceLT, Nat.reduceEqDiff, Int.reduceToNat, Int.reduceAdd, Int.reduceMul, Int.reduceSub, Int.reduceLT, Int.reduceLE, Int.reduceEq, Int.reduceNeg, Int.reduceBEq, Int.reduceBNe, ↓reduceIte, reduceCtorEq, hlt, hop', hlk, gf, gm, ra, rb, zF, ofMap_fn, ln2, hb, hb0] <;> try simp (disch := omega) only [wrap_of])) | (refine And.intro ?_ ?_) | refine awp_skip ?_ | refine awp_ret ?_ | refine awp_exit ?_ | refine awp_label ?_ | refine awloop_step ?_ | fail)
              (unfold outV; (refine panX ?_; try exact True.intro))
            · rw [show calcS 7 a b = valS (downS a b) by simp [calcS, h0]]
              have cO := fun H => op4_ok a b ha hb' h0 H
              by_cases hv : isV (downS a b)
              · have cI := fun H => isV_ok hv H
                rw [show valS (downS a b) = .ok (downS a b) from if_pos hv]
                (have rr1 := dr38_8_X30c; have rr2 := dr38_11_X30c; have rr3 := dr38_16_X30c; have rr4 := dr38_17_X30c; have rr5 := dr38_19_X30c; have ww1 := hlt; have ww2 := hop'; have ww3 := hlk; have ww4 := gf; have ww5 := gm; have ww6 := ra; have ww7 := rb; have ww8 := @zF; have ww9 := @ofMap_fn; have ww10 := ln2; have cc1 := fun z1 z2 => fo z1 z2; have cc2 := fun z1 => cO z1; have cc3 := fun z1 => cI z1; refine wk ?_; clear rr1 rr2 rr3 rr4 rr5 ww1 ww2 ww3 ww4 ww5 ww6 ww7 ww8 ww9 ww10 cc1 cc2 cc3; (repeat' first | exact True.intro | refine Lf.mk ?_ ?_); all_goals intro hP)
                (unfold outV; (refine resX ?_; try exact True.intro))
              · have cI := fun H => isV_no hv H
                rw [show valS (downS a b) = .error 3 from if_neg hv]
                (have rr1 := dr38_8_X30c; have rr2 := dr38_11_X30c; have rr3 := dr38_16_X30c; have rr4 := dr38_17_X30c; have rr5 := dr38_19_X30c; have ww1 := hlt; have ww2 := hop'; have ww3 := hlk; have ww4 := gf; have ww5 := gm; have ww6 := ra; have ww7 := rb; have ww8 := @zF; have ww9 := @ofMap_fn; have ww10 := ln2; have cc1 := fun z1 z2 => fo z1 z2; have cc2 := fun z1 z2 => fp z1 z2; have cc3 := fun z1 => cO z1; have cc4 := fun z1 => cI z1; refine wk ?_; clear rr1 rr2 rr3 rr4 rr5 ww1 ww2 ww3 ww4 ww5 ww6 ww7 ww8 ww9 ww10 cc1 cc2 cc3 cc4; (repeat' first | exact True.intro | refine Lf.mk ?_ ?_); all_goals intro hP)
                (unfold outV; (refine panX ?_; try exact True.intro))
          · have hlk : lookI opsT 8 = some (.func (.func 62) #[] #[]) := rfl
            rw [hop']
            by_cases h0 : b = 0
            · subst h0
              rw [show calcS 8 a 0 = .error 14 by simp [calcS]]
              have cO := fun H => op5_bad a H
              repeat' (first | refine awp_seq ?_ | refine awp_block ?_ | refine awp_scope ?_ | ((first | refine awp_region_k fun Kn Kp hn hp => ?_ | show AWP _ _ (Code.region 8 _ true) _ _ _; refine awp_drawn_k (id := 8) [] [] [.win [0], .win [0], .win [0], .win [0], .win [0], .win [0], .win [0], .win [0], .win [0], .win [0], .win [0], .win [0]] 0 rfl (by as_aux_lemma => kernel_rfl) fun Kn Kp hn hp => ?_ | show AWP _ _ (Code.region 11 _ true) _ _ _; refine awp_drawn_k (id := 11) [7] [7] [.win [0], .win [0], .win [0], .win [0], .win [0], .win [0], .win [0], .pan [0], .skip] 1 rfl (by as_aux_lemma => kernel_rfl) fun Kn Kp hn hp => ?_ | show AWP _ _ (Code.region 16 _ true) _ _ _; refine awp_drawn_k (id := 16) [] [] [.win [0], .win [0], .win [0], .win [0], .win [0], .win [0], .win [0], .win [0], .win [0], .win [0], .win [0], .win [0], .win [0], .win [0], .win [0], .win [0], .win [0], .win [0], .win [0]] 0 rfl (by as_aux_lemma => kernel_rfl) fun Kn Kp hn hp => ?_ | show AWP _ _ (Code.region 17 _ true) _ _ _; refine awp_drawn_k (id := 17) [] [] [.win [0], .win [0], .win [0], .win [0], .win [0], .win [0], .win [0], .win [0], .win [0]] 0 rfl (by as_aux_lemma => kernel_rfl) fun Kn Kp hn hp => ?_ | show AWP _ _ (Code.region 19 _ true) _ _ _; refine awp_drawn_k (id := 19) [] [] [.win [0], .win [0], .win [0], .win [0], .win [0], .win [0], .win [0], .win [0]] 0 rfl (by as_aux_lemma => kernel_rfl) fun Kn Kp hn hp => ?_ | refine oge_intro (by assumption) ?_ | (show AWE _ _ _ _ _ _ _ _ _; first | refine awe_intro (fo _ _) ?_ | refine awe_intro (cO _) ?_) | (show AWSF _ _ _ _ _ _ _ _ _ _ _; first | refine awsf_intro (fo _ _) (fun hrun => ?_) | refine awsf_intro (cO _) (fun hrun => ?_)) | (show OGE _ _ _ _ _ _ _; first | refine oge_intro (fo _ _) ?_ | refine oge_intro (cO _) ?_) | (show AWSE _ _ _ _ _ _ _ _ _ _ _; first | refine awse_intro (fo _ _) (fun hrun => ?_) | refine awse_intro (cO _) (fun hrun => ?_)) | (show PGE _ _ _ _ _; first | refine pge_intro (fo _ _) (fun tm' => ?_) | refine pge_intro (cO _) (fun tm' => ?_))) <;> (simp only [go_sem, Nat.reduceAdd, Nat.reduceSub, Nat.reduceMul, Nat.reduceLeDiff, Nat.reduceLT, Nat.reduceEqDiff, Int.reduceToNat, Int.reduceAdd, Int.reduceMul, Int.reduceSub, Int.reduceLT, Int.reduceLE, Int.reduceEq, Int.reduceNeg, Int.reduceBEq, Int.reduceBNe, ↓reduceIte, reduceCtorEq, hlt, hop', hlk, gf, gm, ra, rb, zF, ofMap_fn, ln2] <;> try simp (disch := omega) only [wrap_of])) | (refine hn _ _ ?_; clear hn hp Kn Kp) | (refine hp _ _ _ ?_; clear hn hp Kn Kp) | (refine awp_cond rfl (fun hb => ?_) (fun hb => ?_) <;> (try simp only [decide_eq_true_eq, decide_eq_false_iff_not, Bool.not_eq_true', Bool.not_eq_false', Bool.true_eq_false, Bool.false_eq_true, beq_iff_eq, bne_iff_ne, bne_eq_false_iff_eq, beq_eq_false_iff_ne, gt_iff_lt, ge_iff_le, Int.reduceEq, Int.reduceNe, Int.reduceLT, Int.reduceLE, ne_eq, not_true_eq_false, not_false_eq_true] at hb)) | ((first | refine awg_split (fun hb => ?_) (fun hb => ?_) | refine awsg_split (fun hb => ?_) (fun hb => ?_)) <;> have hb0 := hb <;> (try simp only [decide_eq_true_eq, decide_eq_false_iff_not, Bool.not_eq_true', Bool.not_eq_false', Bool.true_eq_false, Bool.false_eq_true, beq_iff_eq, bne_iff_ne, bne_eq_false_iff_eq, beq_eq_false_iff_ne, gt_iff_lt, ge_iff_le, Int.reduceEq, Int.reduceNe, Int.reduceLT, Int.reduceLE, ne_eq, not_true_eq_false, not_false_eq_true] at hb0) <;> (try simp only [beq_true, beq_false, Bool.not_eq_true', Bool.not_eq_false'] at hb) <;> (simp only [go_sem, Nat.reduceAdd, Nat.reduceSub, Nat.reduceMul, Nat.reduceLeDiff, Nat.reduceLT, Nat.reduceEqDiff, Int.reduceToNat, Int.reduceAdd, Int.reduceMul, Int.reduceSub, Int.reduceLT, Int.reduceLE, Int.reduceEq, Int.reduceNeg, Int.reduceBEq, Int.reduceBNe, ↓reduceIte, reduceCtorEq, hlt, hop', hlk, gf, gm, ra, rb, zF, ofMap_fn, ln2, hb, hb0] <;> try simp (disch := omega) only [wrap_of])) | (refine And.intro ?_ ?_) | refine awp_skip ?_ | refine awp_ret ?_ | refine awp_exit ?_ | refine awp_label ?_ | refine awloop_step ?_ | fail)
              (unfold outV; (refine panX ?_; try exact True.intro))
            · rw [show calcS 8 a b = valS (-downS (-a) b) by simp [calcS, h0]]
              have cO := fun H => op5_ok a b ha hb' h0 H
              by_cases hv : isV (-downS (-a) b)
              · have cI := fun H => isV_ok hv H
                rw [show valS (-downS (-a) b) = .ok (-downS (-a) b) from if_pos hv]
                (have rr1 := dr38_8_X30c; have rr2 := dr38_11_X30c; have rr3 := dr38_16_X30c; have rr4 := dr38_17_X30c; have rr5 := dr38_19_X30c; have ww1 := hlt; have ww2 := hop'; have ww3 := hlk; have ww4 := gf; have ww5 := gm; have ww6 := ra; have ww7 := rb; have ww8 := @zF; have ww9 := @ofMap_fn; have ww10 := ln2; have cc1 := fun z1 z2 => fo z1 z2; have cc2 := fun z1 => cO z1; have cc3 := fun z1 => cI z1; refine wk ?_; clear rr1 rr2 rr3 rr4 rr5 ww1 ww2 ww3 ww4 ww5 ww6 ww7 ww8 ww9 ww10 cc1 cc2 cc3; (repeat' first | exact True.intro | refine Lf.mk ?_ ?_); all_goals intro hP)
                (unfold outV; (refine resX ?_; try exact True.intro))
              · have cI := fun H => isV_no hv H
                rw [show valS (-downS (-a) b) = .error 3 from if_neg hv]
                (have rr1 := dr38_8_X30c; have rr2 := dr38_11_X30c; have rr3 := dr38_16_X30c; have rr4 := dr38_17_X30c; have rr5 := dr38_19_X30c; have ww1 := hlt; have ww2 := hop'; have ww3 := hlk; have ww4 := gf; have ww5 := gm; have ww6 := ra; have ww7 := rb; have ww8 := @zF; have ww9 := @ofMap_fn; have ww10 := ln2; have cc1 := fun z1 z2 => fo z1 z2; have cc2 := fun z1 z2 => fp z1 z2; have cc3 := fun z1 => cO z1; have cc4 := fun z1 => cI z1; refine wk ?_; clear rr1 rr2 rr3 rr4 rr5 ww1 ww2 ww3 ww4 ww5 ww6 ww7 ww8 ww9 ww10 cc1 cc2 cc3 cc4; (repeat' first | exact True.intro | refine Lf.mk ?_ ?_); all_goals intro hP)
                (unfold outV; (refine panX ?_; try exact True.intro))
          · have hlk : lookI opsT 9 = some (.func (.func 63) #[] #[]) := rfl
            rw [hop']
            rw [show calcS 9 a b = valS (if b < a then b else a) by simp [calcS]]
            have cO := fun H => op6_run a b H
            generalize (if b < a then b else a) = r9 at *
            by_cases hv : isV (r9)
            · have cI := fun H => isV_ok hv H
              rw [show valS (r9) = .ok (r9) from if_pos hv]
              (have rr1 := dr38_8_X30c; have rr2 := dr38_11_X30c; have rr3 := dr38_16_X30c; have rr4 := dr38_17_X30c; have rr5 := dr38_19_X30c; have ww1 := hlt; have ww2 := hop'; have ww3 := hlk; have ww4 := gf; have ww5 := gm; have ww6 := ra; have ww7 := rb; have ww8 := @zF; have ww9 := @ofMap_fn; have ww10 := ln2; have cc1 := fun z1 z2 => fo z1 z2; have cc2 := fun z1 => cO z1; have cc3 := fun z1 => cI z1; refine wk ?_; clear rr1 rr2 rr3 rr4 rr5 ww1 ww2 ww3 ww4 ww5 ww6 ww7 ww8 ww9 ww10 cc1 cc2 cc3; (repeat' first | exact True.intro | refine Lf.mk ?_ ?_); all_goals intro hP)
              (unfold outV; (refine resX ?_; try exact True.intro))
            · have cI := fun H => isV_no hv H
              rw [show valS (r9) = .error 3 from if_neg hv]
              (have rr1 := dr38_8_X30c; have rr2 := dr38_11_X30c; have rr3 := dr38_16_X30c; have rr4 := dr38_17_X30c; have rr5 := dr38_19_X30c; have ww1 := hlt; have ww2 := hop'; have ww3 := hlk; have ww4 := gf; have ww5 := gm; have ww6 := ra; have ww7 := rb; have ww8 := @zF; have ww9 := @ofMap_fn; have ww10 := ln2; have cc1 := fun z1 z2 => fo z1 z2; have cc2 := fun z1 z2 => fp z1 z2; have cc3 := fun z1 => cO z1; have cc4 := fun z1 => cI z1; refine wk ?_; clear rr1 rr2 rr3 rr4 rr5 ww1 ww2 ww3 ww4 ww5 ww6 ww7 ww8 ww9 ww10 cc1 cc2 cc3 cc4; (repeat' first | exact True.intro | refine Lf.mk ?_ ?_); all_goals intro hP)
              (unfold outV; (refine panX ?_; try exact True.intro))
          · have hlk : lookI opsT 10 = some (.func (.func 64) #[] #[]) := rfl
            rw [hop']
            rw [show calcS 10 a b = valS (if a < b then b else a) by simp [calcS]]
            have cO := fun H => op7_run a b H
            generalize (if a < b then b else a) = r9 at *
            by_cases hv : isV (r9)
            · have cI := fun H => isV_ok hv H
              rw [show valS (r9) = .ok (r9) from if_pos hv]
              (have rr1 := dr38_8_X30c; have rr2 := dr38_11_X30c; have rr3 := dr38_16_X30c; have rr4 := dr38_17_X30c; have rr5 := dr38_19_X30c; have ww1 := hlt; have ww2 := hop'; have ww3 := hlk; have ww4 := gf; have ww5 := gm; have ww6 := ra; have ww7 := rb; have ww8 := @zF; have ww9 := @ofMap_fn; have ww10 := ln2; have cc1 := fun z1 z2 => fo z1 z2; have cc2 := fun z1 => cO z1; have cc3 := fun z1 => cI z1; refine wk ?_; clear rr1 rr2 rr3 rr4 rr5 ww1 ww2 ww3 ww4 ww5 ww6 ww7 ww8 ww9 ww10 cc1 cc2 cc3; (repeat' first | exact True.intro | refine Lf.mk ?_ ?_); all_goals intro hP)
              (unfold outV; (refine resX ?_; try exact True.intro))
            · have cI := fun H => isV_no hv H
              rw [show valS (r9) = .error 3 from if_neg hv]
              (have rr1 := dr38_8_X30c; have rr2 := dr38_11_X30c; have rr3 := dr38_16_X30c; have rr4 := dr38_17_X30c; have rr5 := dr38_19_X30c; have ww1 := hlt; have ww2 := hop'; have ww3 := hlk; have ww4 := gf; have ww5 := gm; have ww6 := ra; have ww7 := rb; have ww8 := @zF; have ww9 := @ofMap_fn; have ww10 := ln2; have cc1 := fun z1 z2 => fo z1 z2; have cc2 := fun z1 z2 => fp z1 z2; have cc3 := fun z1 => cO z1; have cc4 := fun z1 => cI z1; refine wk ?_; clear rr1 rr2 rr3 rr4 rr5 ww1 ww2 ww3 ww4 ww5 ww6 ww7 ww8 ww9 ww10 cc1 cc2 cc3 cc4; (repeat' first | exact True.intro | refine Lf.mk ?_ ?_); all_goals intro hP)
              (unfold outV; (refine panX ?_; try exact True.intro))
        · have hn2 : nodeV st i0 i1 i2 i3 e.op e.n acc = .error 1 := by
            unfold nodeV; rw [if_pos hop]
            match acc, hl2 with
            | [], _ => rfl
            | [_], _ => rfl
            | _ :: _ :: _ :: _, _ => rfl
          rw [hn2]
          have hop2 : e.op = 4 ∨ e.op = 5 ∨ e.op = 6 ∨ e.op = 7 ∨ e.op = 8 ∨ e.op = 9 ∨ e.op = 10 := by omega
          have hne : ((acc.length : Int) != 2) = true := by simp; omega
          obtain ⟨g, hlk⟩ : ∃ g, lookI opsT e.op = some (.func (.func g) #[] #[]) := by
            rcases hop2 with h | h | h | h | h | h | h <;> rw [h] <;> exact ⟨_, rfl⟩
          (have rr1 := dr38_8_X30c; have rr2 := dr38_11_X30c; have rr3 := dr38_16_X30c; have rr4 := dr38_17_X30c; have rr5 := dr38_19_X30c; have ww1 := hlt; have ww2 := hlk; have ww3 := gf; have ww4 := gm; have ww5 := @zF; have ww6 := @ofMap_fn; have ww7 := hne; have ww8 := ln; have cc1 := fun z1 z2 => fo z1 z2; have cc2 := fun z1 z2 => fp z1 z2; refine wk ?_; clear rr1 rr2 rr3 rr4 rr5 ww1 ww2 ww3 ww4 ww5 ww6 ww7 ww8 cc1 cc2; (repeat' first | exact True.intro | refine Lf.mk ?_ ?_); all_goals intro hP)
          (unfold outV; (refine panX ?_; try exact True.intro))
      · have hlk := look_no hop
        by_cases hl0 : acc.length = 0
        · obtain rfl : acc = [] := List.eq_nil_of_length_eq_zero hl0
          have ln0 : (nR []).length = 0 := rfl
          have hn2 : nodeV st i0 i1 i2 i3 e.op e.n [] = leafV st i0 i1 i2 i3 e.op e.n := by unfold nodeV; rw [if_neg hop]; rfl
          rw [hn2]
          by_cases o1 : e.op = 1
          · rw [show leafV st i0 i1 i2 i3 e.op e.n = valS e.n by unfold leafV; rw [if_pos o1]]
            rw [o1] at hlk
            by_cases hv : isV (e.n)
            · have cI := fun H => isV_ok hv H
              rw [show valS (e.n) = .ok (e.n) from if_pos hv]
              (have rr1 := dr38_8_X30c; have rr2 := dr38_11_X30c; have rr3 := dr38_16_X30c; have rr4 := dr38_17_X30c; have rr5 := dr38_19_X30c; have ww1 := hlt; have ww2 := hlk; have ww3 := gf; have ww4 := gm; have ww5 := @zF; have ww6 := @ofMap_nil; have ww7 := ln0; have ww8 := o1; have cc1 := fun z1 z2 => fo z1 z2; have cc2 := fun z1 => cI z1; refine wk ?_; clear rr1 rr2 rr3 rr4 rr5 ww1 ww2 ww3 ww4 ww5 ww6 ww7 ww8 cc1 cc2; (repeat' first | exact True.intro | refine Lf.mk ?_ ?_); all_goals intro hP)
              (unfold outV; (refine resX ?_; try exact True.intro))
            · have cI := fun H => isV_no hv H
              rw [show valS (e.n) = .error 3 from if_neg hv]
              (have rr1 := dr38_8_X30c; have rr2 := dr38_11_X30c; have rr3 := dr38_16_X30c; have rr4 := dr38_17_X30c; have rr5 := dr38_19_X30c; have ww1 := hlt; have ww2 := hlk; have ww3 := gf; have ww4 := gm; have ww5 := @zF; have ww6 := @ofMap_nil; have ww7 := ln0; have ww8 := o1; have cc1 := fun z1 z2 => fo z1 z2; have cc2 := fun z1 z2 => fp z1 z2; have cc3 := fun z1 => cI z1; refine wk ?_; clear rr1 rr2 rr3 rr4 rr5 ww1 ww2 ww3 ww4 ww5 ww6 ww7 ww8 cc1 cc2 cc3; (repeat' first | exact True.intro | refine Lf.mk ?_ ?_); all_goals intro hP)
              (unfold outV; (refine panX ?_; try exact True.intro))
          have o1' : (e.op == 1) = false := by simpa using o1
          by_cases o2 : e.op = 2 ∧ 0 ≤ e.n ∧ e.n < st.length
          · obtain ⟨p2, q0, q1⟩ := o2
            rw [p2] at hlk
            rw [show leafV st i0 i1 i2 i3 e.op e.n = valS (st.getD e.n.toNat 0) by unfold leafV; rw [if_neg o1, if_pos ⟨p2, q0, q1⟩]]
            have hx : (rI st)[e.n.toNat]? = some [.i (st.getD e.n.toNat 0)] := by
              have hlt2 : e.n.toNat < st.length := by omega
              rw [List.getElem?_map, List.getD_eq_getElem?_getD, List.getElem?_eq_getElem hlt2]; rfl
            have lst : (rI st).length = st.length := by simp
            generalize st.getD e.n.toNat 0 = sv at *
            by_cases hv : isV (sv)
            · have cI := fun H => isV_ok hv H
              rw [show valS (sv) = .ok (sv) from if_pos hv]
              (have rr1 := dr38_8_X30c; have rr2 := dr38_11_X30c; have rr3 := dr38_16_X30c; have rr4 := dr38_17_X30c; have rr5 := dr38_19_X30c; have ww1 := hlt; have ww2 := hlk; have ww3 := gf; have ww4 := gm; have ww5 := @zF; have ww6 := @ofMap_nil; have ww7 := ln0; have ww8 := o1'; have ww9 := p2; have ww10 := q0; have ww11 := q1; have ww12 := hx; have ww13 := lst; have cc1 := fun z1 z2 => fo z1 z2; have cc2 := fun z1 => cI z1; refine wk ?_; clear rr1 rr2 rr3 rr4 rr5 ww1 ww2 ww3 ww4 ww5 ww6 ww7 ww8 ww9 ww10 ww11 ww12 ww13 cc1 cc2; (repeat' first | exact True.intro | refine Lf.mk ?_ ?_); all_goals intro hP)
              (unfold outV; (refine resX ?_; try exact True.intro))
            · have cI := fun H => isV_no hv H
              rw [show valS (sv) = .error 3 from if_neg hv]
              (have rr1 := dr38_8_X30c; have rr2 := dr38_11_X30c; have rr3 := dr38_16_X30c; have rr4 := dr38_17_X30c; have rr5 := dr38_19_X30c; have ww1 := hlt; have ww2 := hlk; have ww3 := gf; have ww4 := gm; have ww5 := @zF; have ww6 := @ofMap_nil; have ww7 := ln0; have ww8 := o1'; have ww9 := p2; have ww10 := q0; have ww11 := q1; have ww12 := hx; have ww13 := lst; have cc1 := fun z1 z2 => fo z1 z2; have cc2 := fun z1 z2 => fp z1 z2; have cc3 := fun z1 => cI z1; refine wk ?_; clear rr1 rr2 rr3 rr4 rr5 ww1 ww2 ww3 ww4 ww5 ww6 ww7 ww8 ww9 ww10 ww11 ww12 ww13 cc1 cc2 cc3; (repeat' first | exact True.intro | refine Lf.mk ?_ ?_); all_goals intro hP)
              (unfold outV; (refine panX ?_; try exact True.intro))
          by_cases o3 : e.op = 3 ∧ 0 ≤ e.n ∧ e.n < 4
          · obtain ⟨p3, q0, q1⟩ := o3
            rw [p3] at hlk
            have hnn : e.n = 0 ∨ e.n = 1 ∨ e.n = 2 ∨ e.n = 3 := by omega
            rw [show leafV st i0 i1 i2 i3 e.op e.n = valS (inS i0 i1 i2 i3 e.n.toNat) by unfold leafV; rw [if_neg o1, if_neg o2, if_pos ⟨p3, q0, q1⟩]]
            rcases hnn with hnn | hnn | hnn | hnn
            · rw [show inS i0 i1 i2 i3 e.n.toNat = i0 by rw [hnn]; rfl]
              by_cases hv : isV (i0)
              · have cI := fun H => isV_ok hv H
                rw [show valS (i0) = .ok (i0) from if_pos hv]
                (have rr1 := dr38_8_X30c; have rr2 := dr38_11_X30c; have rr3 := dr38_16_X30c; have rr4 := dr38_17_X30c; have rr5 := dr38_19_X30c; have ww1 := hlt; have ww2 := hlk; have ww3 := gf; have ww4 := gm; have ww5 := @zF; have ww6 := @ofMap_nil; have ww7 := ln0; have ww8 := o1'; have ww9 := p3; have ww10 := hnn; have cc1 := fun z1 z2 => fo z1 z2; have cc2 := fun z1 => cI z1; refine wk ?_; clear rr1 rr2 rr3 rr4 rr5 ww1 ww2 ww3 ww4 ww5 ww6 ww7 ww8 ww9 ww10 cc1 cc2; (repeat' first | exact True.intro | refine Lf.mk ?_ ?_); all_goals intro hP)
                (unfold outV; (refine resX ?_; try exact True.intro))
              · have cI := fun H => isV_no hv H
                rw [show valS (i0) = .error 3 from if_neg hv]
                (have rr1 := dr38_8_X30c; have rr2 := dr38_11_X30c; have rr3 := dr38_16_X30c; have rr4 := dr38_17_X30c; have rr5 := dr38_19_X30c; have ww1 := hlt; have ww2 := hlk; have ww3 := gf; have ww4 := gm; have ww5 := @zF; have ww6 := @ofMap_nil; have ww7 := ln0; have ww8 := o1'; have ww9 := p3; have ww10 := hnn; have cc1 := fun z1 z2 => fo z1 z2; have cc2 := fun z1 z2 => fp z1 z2; have cc3 := fun z1 => cI z1; refine wk ?_; clear rr1 rr2 rr3 rr4 rr5 ww1 ww2 ww3 ww4 ww5 ww6 ww7 ww8 ww9 ww10 cc1 cc2 cc3; (repeat' first | exact True.intro | refine Lf.mk ?_ ?_); all_goals intro hP)
                (unfold outV; (refine panX ?_; try exact True.intro))
            · rw [show inS i0 i1 i2 i3 e.n.toNat = i1 by rw [hnn]; rfl]
              by_cases hv : isV (i1)
              · have cI := fun H => isV_ok hv H
                rw [show valS (i1) = .ok (i1) from if_pos hv]
                (have rr1 := dr38_8_X30c; have rr2 := dr38_11_X30c; have rr3 := dr38_16_X30c; have rr4 := dr38_17_X30c; have rr5 := dr38_19_X30c; have ww1 := hlt; have ww2 := hlk; have ww3 := gf; have ww4 := gm; have ww5 := @zF; have ww6 := @ofMap_nil; have ww7 := ln0; have ww8 := o1'; have ww9 := p3; have ww10 := hnn; have cc1 := fun z1 z2 => fo z1 z2; have cc2 := fun z1 => cI z1; refine wk ?_; clear rr1 rr2 rr3 rr4 rr5 ww1 ww2 ww3 ww4 ww5 ww6 ww7 ww8 ww9 ww10 cc1 cc2; (repeat' first | exact True.intro | refine Lf.mk ?_ ?_); all_goals intro hP)
                (unfold outV; (refine resX ?_; try exact True.intro))
              · have cI := fun H => isV_no hv H
                rw [show valS (i1) = .error 3 from if_neg hv]
                (have rr1 := dr38_8_X30c; have rr2 := dr38_11_X30c; have rr3 := dr38_16_X30c; have rr4 := dr38_17_X30c; have rr5 := dr38_19_X30c; have ww1 := hlt; have ww2 := hlk; have ww3 := gf; have ww4 := gm; have ww5 := @zF; have ww6 := @ofMap_nil; have ww7 := ln0; have ww8 := o1'; have ww9 := p3; have ww10 := hnn; have cc1 := fun z1 z2 => fo z1 z2; have cc2 := fun z1 z2 => fp z1 z2; have cc3 := fun z1 => cI z1; refine wk ?_; clear rr1 rr2 rr3 rr4 rr5 ww1 ww2 ww3 ww4 ww5 ww6 ww7 ww8 ww9 ww10 cc1 cc2 cc3; (repeat' first | exact True.intro | refine Lf.mk ?_ ?_); all_goals intro hP)
                (unfold outV; (refine panX ?_; try exact True.intro))
            · rw [show inS i0 i1 i2 i3 e.n.toNat = i2 by rw [hnn]; rfl]
              by_cases hv : isV (i2)
              · have cI := fun H => isV_ok hv H
                rw [show valS (i2) = .ok (i2) from if_pos hv]
                (have rr1 := dr38_8_X30c; have rr2 := dr38_11_X30c; have rr3 := dr38_16_X30c; have rr4 := dr38_17_X30c; have rr5 := dr38_19_X30c; have ww1 := hlt; have ww2 := hlk; have ww3 := gf; have ww4 := gm; have ww5 := @zF; have ww6 := @ofMap_nil; have ww7 := ln0; have ww8 := o1'; have ww9 := p3; have ww10 := hnn; have cc1 := fun z1 z2 => fo z1 z2; have cc2 := fun z1 => cI z1; refine wk ?_; clear rr1 rr2 rr3 rr4 rr5 ww1 ww2 ww3 ww4 ww5 ww6 ww7 ww8 ww9 ww10 cc1 cc2; (repeat' first | exact True.intro | refine Lf.mk ?_ ?_); all_goals intro hP)
                (unfold outV; (refine resX ?_; try exact True.intro))
              · have cI := fun H => isV_no hv H
                rw [show valS (i2) = .error 3 from if_neg hv]
                (have rr1 := dr38_8_X30c; have rr2 := dr38_11_X30c; have rr3 := dr38_16_X30c; have rr4 := dr38_17_X30c; have rr5 := dr38_19_X30c; have ww1 := hlt; have ww2 := hlk; have ww3 := gf; have ww4 := gm; have ww5 := @zF; have ww6 := @ofMap_nil; have ww7 := ln0; have ww8 := o1'; have ww9 := p3; have ww10 := hnn; have cc1 := fun z1 z2 => fo z1 z2; have cc2 := fun z1 z2 => fp z1 z2; have cc3 := fun z1 => cI z1; refine wk ?_; clear rr1 rr2 rr3 rr4 rr5 ww1 ww2 ww3 ww4 ww5 ww6 ww7 ww8 ww9 ww10 cc1 cc2 cc3; (repeat' first | exact True.intro | refine Lf.mk ?_ ?_); all_goals intro hP)
                (unfold outV; (refine panX ?_; try exact True.intro))
            · rw [show inS i0 i1 i2 i3 e.n.toNat = i3 by rw [hnn]; rfl]
              by_cases hv : isV (i3)
              · have cI := fun H => isV_ok hv H
                rw [show valS (i3) = .ok (i3) from if_pos hv]
                (have rr1 := dr38_8_X30c; have rr2 := dr38_11_X30c; have rr3 := dr38_16_X30c; have rr4 := dr38_17_X30c; have rr5 := dr38_19_X30c; have ww1 := hlt; have ww2 := hlk; have ww3 := gf; have ww4 := gm; have ww5 := @zF; have ww6 := @ofMap_nil; have ww7 := ln0; have ww8 := o1'; have ww9 := p3; have ww10 := hnn; have cc1 := fun z1 z2 => fo z1 z2; have cc2 := fun z1 => cI z1; refine wk ?_; clear rr1 rr2 rr3 rr4 rr5 ww1 ww2 ww3 ww4 ww5 ww6 ww7 ww8 ww9 ww10 cc1 cc2; (repeat' first | exact True.intro | refine Lf.mk ?_ ?_); all_goals intro hP)
                (unfold outV; (refine resX ?_; try exact True.intro))
              · have cI := fun H => isV_no hv H
                rw [show valS (i3) = .error 3 from if_neg hv]
                (have rr1 := dr38_8_X30c; have rr2 := dr38_11_X30c; have rr3 := dr38_16_X30c; have rr4 := dr38_17_X30c; have rr5 := dr38_19_X30c; have ww1 := hlt; have ww2 := hlk; have ww3 := gf; have ww4 := gm; have ww5 := @zF; have ww6 := @ofMap_nil; have ww7 := ln0; have ww8 := o1'; have ww9 := p3; have ww10 := hnn; have cc1 := fun z1 z2 => fo z1 z2; have cc2 := fun z1 z2 => fp z1 z2; have cc3 := fun z1 => cI z1; refine wk ?_; clear rr1 rr2 rr3 rr4 rr5 ww1 ww2 ww3 ww4 ww5 ww6 ww7 ww8 ww9 ww10 cc1 cc2 cc3; (repeat' first | exact True.intro | refine Lf.mk ?_ ?_); all_goals intro hP)
                (unfold outV; (refine panX ?_; try exact True.intro))
          · rw [show leafV st i0 i1 i2 i3 e.op e.n = .error 1 by unfold leafV; rw [if_neg o1, if_neg o2, if_neg o3]]
            have lst : (rI st).length = st.length := by simp
            have fpe : ∀ H, ARun Tryz.prog 59 [.b true, .i 1] H (.pan (xF 1) H) := fun H => fail_pan 1 H
            by_cases p2 : e.op = 2
            · have p3 : ¬ e.op = 3 := by omega
              rw [p2] at hlk
              by_cases q0 : 0 ≤ e.n
              · have q1 : ¬ e.n < st.length := fun h => o2 ⟨p2, q0, h⟩
                (have rr1 := dr38_8_X30c; have rr2 := dr38_11_X30c; have rr3 := dr38_16_X30c; have rr4 := dr38_17_X30c; have rr5 := dr38_19_X30c; have ww1 := hlt; have ww2 := hlk; have ww3 := gf; have ww4 := gm; have ww5 := @zF; have ww6 := @ofMap_nil; have ww7 := ln0; have ww8 := o1'; have ww9 := p2; have ww10 := q0; have ww11 := q1; have ww12 := lst; have cc1 := fun z1 z2 => fo z1 z2; have cc2 := fun z1 => fpe z1; refine wk ?_; clear rr1 rr2 rr3 rr4 rr5 ww1 ww2 ww3 ww4 ww5 ww6 ww7 ww8 ww9 ww10 ww11 ww12 cc1 cc2; (repeat' first | exact True.intro | refine Lf.mk ?_ ?_); all_goals intro hP)
                (unfold outV; (refine panX ?_; try exact True.intro))
              · (have rr1 := dr38_8_X30c; have rr2 := dr38_11_X30c; have rr3 := dr38_16_X30c; have rr4 := dr38_17_X30c; have rr5 := dr38_19_X30c; have ww1 := hlt; have ww2 := hlk; have ww3 := gf; have ww4 := gm; have ww5 := @zF; have ww6 := @ofMap_nil; have ww7 := ln0; have ww8 := o1'; have ww9 := p2; have ww10 := q0; have ww11 := lst; have cc1 := fun z1 z2 => fo z1 z2; have cc2 := fun z1 => fpe z1; refine wk ?_; clear rr1 rr2 rr3 rr4 rr5 ww1 ww2 ww3 ww4 ww5 ww6 ww7 ww8 ww9 ww10 ww11 cc1 cc2; (repeat' first | exact True.intro | refine Lf.mk ?_ ?_); all_goals intro hP)
                (unfold outV; (refine panX ?_; try exact True.intro))
            · have p2' : (e.op == 2) = false := by simpa using p2
              by_cases p3 : e.op = 3
              · rw [p3] at hlk
                by_cases q0 : 0 ≤ e.n
                · have q1 : ¬ e.n < 4 := fun h => o3 ⟨p3, q0, h⟩
                  (have rr1 := dr38_8_X30c; have rr2 := dr38_11_X30c; have rr3 := dr38_16_X30c; have rr4 := dr38_17_X30c; have rr5 := dr38_19_X30c; have ww1 := hlt; have ww2 := hlk; have ww3 := gf; have ww4 := gm; have ww5 := @zF; have ww6 := @ofMap_nil; have ww7 := ln0; have ww8 := o1'; have ww9 := p3; have ww10 := q0; have ww11 := q1; have ww12 := lst; have cc1 := fun z1 z2 => fo z1 z2; have cc2 := fun z1 => fpe z1; refine wk ?_; clear rr1 rr2 rr3 rr4 rr5 ww1 ww2 ww3 ww4 ww5 ww6 ww7 ww8 ww9 ww10 ww11 ww12 cc1 cc2; (repeat' first | exact True.intro | refine Lf.mk ?_ ?_); all_goals intro hP)
                  (unfold outV; (refine panX ?_; try exact True.intro))
                · (have rr1 := dr38_8_X30c; have rr2 := dr38_11_X30c; have rr3 := dr38_16_X30c; have rr4 := dr38_17_X30c; have rr5 := dr38_19_X30c; have ww1 := hlt; have ww2 := hlk; have ww3 := gf; have ww4 := gm; have ww5 := @zF; have ww6 := @ofMap_nil; have ww7 := ln0; have ww8 := o1'; have ww9 := p3; have ww10 := q0; have ww11 := lst; have cc1 := fun z1 z2 => fo z1 z2; have cc2 := fun z1 => fpe z1; refine wk ?_; clear rr1 rr2 rr3 rr4 rr5 ww1 ww2 ww3 ww4 ww5 ww6 ww7 ww8 ww9 ww10 ww11 cc1 cc2; (repeat' first | exact True.intro | refine Lf.mk ?_ ?_); all_goals intro hP)
                  (unfold outV; (refine panX ?_; try exact True.intro))
              · have p3' : (e.op == 3) = false := by simpa using p3
                (have rr1 := dr38_8_X30c; have rr2 := dr38_11_X30c; have rr3 := dr38_16_X30c; have rr4 := dr38_17_X30c; have rr5 := dr38_19_X30c; have ww1 := hlt; have ww2 := hlk; have ww3 := gf; have ww4 := gm; have ww5 := @zF; have ww6 := @ofMap_nil; have ww7 := ln0; have ww8 := o1'; have ww9 := p2'; have ww10 := p3'; have ww11 := lst; have cc1 := fun z1 z2 => fo z1 z2; have cc2 := fun z1 => fpe z1; refine wk ?_; clear rr1 rr2 rr3 rr4 rr5 ww1 ww2 ww3 ww4 ww5 ww6 ww7 ww8 ww9 ww10 ww11 cc1 cc2; (repeat' first | exact True.intro | refine Lf.mk ?_ ?_); all_goals intro hP)
                (unfold outV; (refine panX ?_; try exact True.intro))
        · have hn2 : nodeV st i0 i1 i2 i3 e.op e.n acc = .error 1 := by unfold nodeV; rw [if_neg hop, if_neg hl0]
          rw [hn2]
          have hgt : (0 : Int) < acc.length := by omega
          (have rr1 := dr38_8_X30c; have rr2 := dr38_11_X30c; have rr3 := dr38_16_X30c; have rr4 := dr38_17_X30c; have rr5 := dr38_19_X30c; have ww1 := hlt; have ww2 := hlk; have ww3 := gf; have ww4 := gm; have ww5 := @zF; have ww6 := @ofMap_nil; have ww7 := ln; have ww8 := hgt; have cc1 := fun z1 z2 => fo z1 z2; have cc2 := fun z1 z2 => fp z1 z2; refine wk ?_; clear rr1 rr2 rr3 rr4 rr5 ww1 ww2 ww3 ww4 ww5 ww6 ww7 ww8 cc1 cc2; (repeat' first | exact True.intro | refine Lf.mk ?_ ?_); all_goals intro hP)
          (unfold outV; (refine panX ?_; try exact True.intro))
    | cons k rest =>
      obtain ⟨hk, hlt, hd, hm⟩ := drop_cons hr
      have hw : IntKind.i64.wrap ((i : Int) + 1) = ((i + 1 : Nat) : Int) := by rw [wrap_of (by omega) (by omega)]; omega
      have hk' : (e.kids.map encE)[i]? = some (cE k) := by rw [List.getElem?_map, hk, Option.map_some, encE_eq]
      have c := fun L => ih k hm (by have := nodes_mem hm; omega) fid mid V (H0 ++ L) (hF.app L)
      cases hv : valE st i0 i1 i2 i3 k with
      | error x =>
        have hall : valE st i0 i1 i2 i3 e = .error x := by
          rw [valE_eq]
          have : e.kids = e.kids.take i ++ k :: rest := by rw [← hr, List.take_append_drop]
          rw [this, valEs_fail h4 hv]
        rw [hall]
        simp only [hv, outV] at c
        (have rr1 := dr38_8_X30c; have rr2 := dr38_11_X30c; have rr3 := dr38_16_X30c; have rr4 := dr38_17_X30c; have rr5 := dr38_19_X30c; have ww1 := hlt; have ww2 := hk'; have cc1 := fun z1 => c z1; refine wk ?_; clear rr1 rr2 rr3 rr4 rr5 ww1 ww2 cc1; (repeat' first | exact True.intro | refine Lf.mk ?_ ?_); all_goals intro hP)
        (unfold outV; (refine panX ?_; try exact True.intro))
      | ok v =>
        have hs : valEs st i0 i1 i2 i3 (e.kids.take (i + 1)) = .ok (acc ++ [v]) := by
          rw [List.take_add_one, hk]; exact valEs_snoc h4 hv
        simp only [hv, outV] at c
        have p1 := nR_one acc v
        (have rr1 := dr38_8_X30c; have rr2 := dr38_11_X30c; have rr3 := dr38_16_X30c; have rr4 := dr38_17_X30c; have rr5 := dr38_19_X30c; have ww1 := hlt; have ww2 := hk'; have ww3 := hw; have ww4 := p1; have ww5 := ln; have cc1 := fun z1 => c z1; refine wkO ?_; clear rr1 rr2 rr3 rr4 rr5 ww1 ww2 ww3 ww4 ww5 cc1; (repeat' first | exact True.intro | refine Lf.mk ?_ ?_); all_goals intro hP)
        refine ⟨(i + 1, acc ++ [v]), by simp only; omega, ⟨by simp only; omega, by simp [h2], hs⟩, ?_⟩
        refine Wk.keepE 2 1 rfl (by simp) (by intro o ho; simp only [List.mem_cons, List.not_mem_nil, or_false] at ho; rcases ho with rfl | rfl; (simp [AObj.under, AV.under]); exact under_pvRows _) ?_
        have hfl2 : fid < H0.length + 2 := by omega
        simp only [List.map_cons, List.map_nil, AV.low, hfl2, List.length_append, List.length_cons, List.length_nil, Nat.lt_irrefl, if_false, Fgt, true_or, or_true, and_true, true_and, Nat.lt_add_right_iff_pos, Nat.add_lt_add_iff_left, Nat.lt_add_one, Nat.reduceLT, if_true, eq_self, Nat.zero_add]
theorem dr38_8_X30d : Drawn Tryz.prog 8 (regOps 8 ((Tryz.f38.body).getD .skip)) [] [] [.win [0], .win [0], .win [0], .win [0], .win [0], .win [0], .win [0], .win [0], .win [0], .win [0], .win [0], .win [0]] 0 [] := ⟨rfl, by as_aux_lemma => kernel_rfl⟩
theorem dr38_11_X30d : Drawn Tryz.prog 11 (regOps 11 ((Tryz.f38.body).getD .skip)) [7] [] [.win [0], .win [0], .win [0], .win [0], .win [0], .win [0], .win [0], .eff 0, .win [1]] 1 [] := ⟨rfl, by as_aux_lemma => kernel_rfl⟩
theorem dr38_16_X30d : Drawn Tryz.prog 16 (regOps 16 ((Tryz.f38.body).getD .skip)) [] [] [.win [0], .win [0], .win [0], .win [0], .win [0], .win [0], .win [0], .win [0], .win [0], .win [0], .win [0], .win [0], .win [0], .win [0], .win [0], .win [0], .win [0], .win [0], .win [0]] 0 [] := ⟨rfl, by as_aux_lemma => kernel_rfl⟩
theorem dr38_17_X30d : Drawn Tryz.prog 17 (regOps 17 ((Tryz.f38.body).getD .skip)) [] [] [.win [0], .win [0], .win [0], .win [0], .win [0], .win [0], .win [0], .win [0], .win [0]] 0 [] := ⟨rfl, by as_aux_lemma => kernel_rfl⟩
theorem dr38_19_X30d : Drawn Tryz.prog 19 (regOps 19 ((Tryz.f38.body).getD .skip)) [] [] [.win [0], .win [0], .win [0], .win [0], .win [0], .win [0], .win [0], .win [0]] 0 [] := ⟨rfl, by as_aux_lemma => kernel_rfl⟩
/-- The same where the state is a row of one's own. -/
theorem value_os (sid : Nat) (st : List Int) (i0 i1 i2 i3 : Int) (hst : st.length ≤ 1000000) (e : Ex) : nodes e ≤ 1000000 → ∀ (fid mid : Nat) (V : AV) (H0 : List AObj), Frm fid mid H0 V (.os sid 0 st.length st.length) i0 i1 i2 i3 → H0[sid]? = some (.arr 3 1 (nR st)) →
    ARun Tryz.prog 38 [.p fid 0, .ag (cE e)] H0 (outV (valE st i0 i1 i2 i3 e) H0) := by
  induction e using Ex.ind with
  | h e ih =>
    intro hn fid mid V H0 hF hS
    have gs := fun L => getOut hS L
    rw [nodes_eq] at hn
    have hkl := len_nodesL e.kids
    have hfl := (List.getElem?_eq_some_iff.1 hF.f).1
    have gf := fun L => (hF.app L).f
    have gm := fun L => (hF.app L).m
    have fo := fun e H => fail_ok e H
    have fp := fun e H => fail_pan e H
    (refine ARun.intro Tryz.func38 rfl Tryz.call38 Tryz.ntmps38 Tryz.results38 ?_; simp only [List.length_cons, List.length_nil, List.length_map, Nat.reduceAdd, Nat.reduceSub, List.replicate_succ, List.replicate_zero, List.cons_append, List.nil_append])
    refine awp_len_agg 1 3 rfl rfl fun hlen => ?_
    rw [List.length_map] at hlen
    have lw : (e.kids.map encE).length = e.kids.length := List.length_map encE
    (have rr1 := dr38_8_X30d; have rr2 := dr38_11_X30d; have rr3 := dr38_16_X30d; have rr4 := dr38_17_X30d; have rr5 := dr38_19_X30d; have ww1 := lw; refine wk ?_; clear rr1 rr2 rr3 rr4 rr5 ww1; (repeat' first | exact True.intro | refine Lf.mk ?_ ?_); all_goals intro hP)
    refine awp_loop_ind (σ := Nat × List Int) (fun s => e.kids.length - s.1) (fun s => s.1 ≤ e.kids.length ∧ s.2.length = s.1 ∧ valEs st i0 i1 i2 i3 (e.kids.take s.1) = .ok s.2)
      (fun s => (.p fid 0 :: .any :: .any :: .p H0.length 0 :: .any :: .os (H0.length + 1) 0 s.2.length s.2.length :: .any :: .any :: .any :: .any :: .any :: .any :: .rs 4 (e.kids.map encE) :: .i e.kids.length :: .i s.1 :: .any :: .any :: .any :: .any :: .any :: .any :: .any :: .any :: .any :: .any :: .any :: .any :: .any :: .any :: .any :: .any :: .any :: .any :: .any :: .any :: .any :: .any :: .any :: .any :: .any :: .any :: .any :: .any :: .any :: .any :: .any :: .any :: .any :: .any :: .any :: .any :: .any :: .any :: .any :: .any :: .any :: .any :: .any :: .any :: .any :: .any :: .any :: .any :: .any :: .any :: .any :: .any :: .any :: .any :: .any :: .any :: .any :: .any :: .any :: .any :: .any :: .any :: .any :: .any :: .any :: .any :: .any :: .any :: .any :: .any :: .any :: .any :: .any :: .any :: .any :: .any :: .any :: .any :: .any :: .any :: .any :: .any :: .any :: .any :: .any :: .any :: .any :: .any :: .any :: .any :: .any :: .any :: .any :: .any :: .any :: .any :: .any :: []))
      (fun s => H0 ++ [.cells 33 [.i e.op, .i e.n, .i e.unit, .rs 4 (e.kids.map encE)], .arr 3 1 (nR s.2)]) (0, []) ⟨Nat.zero_le _, rfl, rfl⟩ (Wk.ghostL 5 1 3 (sz := 1) (by omega) rfl rfl rfl (by (refine fgX ?_; try exact True.intro))) ?_
    rintro ⟨i, acc⟩ ⟨h1, h2, h4⟩
    simp only at h1 h2 h4 ⊢
    have ln := nR_len acc
    cases hr : e.kids.drop i with
    | nil =>
      have hlt := drop_nil hr
      have hik : i = e.kids.length := by have := List.drop_eq_nil_iff.1 hr; omega
      have hE : valE st i0 i1 i2 i3 e = nodeV st i0 i1 i2 i3 e.op e.n acc := by
        rw [hik, List.take_length] at h4
        rw [valE_eq, h4]
      rw [hE]
      clear hE
      have hall := valEs_isV h4
      by_cases hop : 4 ≤ e.op ∧ e.op ≤ 10
      · by_cases hl2 : acc.length = 2
        · obtain ⟨a, b, rfl⟩ : ∃ a b, acc = [a, b] := by match acc, hl2 with | [a, b], _ => exact ⟨a, b, rfl⟩
          have ha : isV a := hall a (by simp)
          have hb' : isV b := hall b (by simp)
          have hn2 : nodeV st i0 i1 i2 i3 e.op e.n [a, b] = calcS e.op a b := by unfold nodeV; rw [if_pos hop]
          rw [hn2]
          have ra : (nR [a, b])[0]? = some [.i a] := rfl
          have ln2 : (nR [a, b]).length = 2 := rfl
          have rb : (nR [a, b])[1]? = some [.i b] := rfl
          have hop2 : e.op = 4 ∨ e.op = 5 ∨ e.op = 6 ∨ e.op = 7 ∨ e.op = 8 ∨ e.op = 9 ∨ e.op = 10 := by omega
          clear ih hn2 hop hall h4 hn hkl
          rcases hop2 with hop' | hop' | hop' | hop' | hop' | hop' | hop'
          · have hlk : lookI opsT 4 = some (.func (.func 56) #[] #[]) := rfl
            rw [hop']
            rw [show calcS 4 a b = valS (a + b) by simp [calcS]]
            have cO := fun H => op1_run a b ha hb' H
            by_cases hv : isV (a + b)
            · have cI := fun H => isV_ok hv H
              rw [show valS (a + b) = .ok (a + b) from if_pos hv]
              (have rr1 := dr38_8_X30d; have rr2 := dr38_11_X30d; have rr3 := dr38_16_X30d; have rr4 := dr38_17_X30d; have rr5 := dr38_19_X30d; have ww1 := hlt; have ww2 := hop'; have ww3 := hlk; have ww4 := gf; have ww5 := gm; have ww6 := ra; have ww7 := rb; have ww8 := @zF; have ww9 := @ofMap_fn; have ww10 := ln2; have cc1 := fun z1 z2 => fo z1 z2; have cc2 := fun z1 => cO z1; have cc3 := fun z1 => cI z1; refine wk ?_; clear rr1 rr2 rr3 rr4 rr5 ww1 ww2 ww3 ww4 ww5 ww6 ww7 ww8 ww9 ww10 cc1 cc2 cc3; (repeat' first | exact True.intro | refine Lf.mk ?_ ?_); all_goals intro hP)
              (unfold outV; (refine resX ?_; try exact True.intro))
            · have cI := fun H => isV_no hv H
              rw [show valS (a + b) = .error 3 from if_neg hv]
              (have rr1 := dr38_8_X30d; have rr2 := dr38_11_X30d; have rr3 := dr38_16_X30d; have rr4 := dr38_17_X30d; have rr5 := dr38_19_X30d; have ww1 := hlt; have ww2 := hop'; have ww3 := hlk; have ww4 := gf; have ww5 := gm; have ww6 := ra; have ww7 := rb; have ww8 := @zF; have ww9 := @ofMap_fn; have ww10 := ln2; have cc1 := fun z1 z2 => fo z1 z2; have cc2 := fun z1 z2 => fp z1 z2; have cc3 := fun z1 => cO z1; have cc4 := fun z1 => cI z1; refine wk ?_; clear rr1 rr2 rr3 rr4 rr5 ww1 ww2 ww3 ww4 ww5 ww6 ww7 ww8 ww9 ww10 cc1 cc2 cc3 cc4; (repeat' first | exact True.intro | refine Lf.mk ?_ ?_); all_goals intro hP)
              (unfold outV; (refine panX ?_; try exact True.intro))
          · have hlk : lookI opsT 5 = some (.func (.func 57) #[] #[]) := rfl
            rw [hop']
            rw [show calcS 5 a b = valS (a - b) by simp [calcS]]
            have cO := fun H => op2_run a b ha hb' H
            by_cases hv : isV (a - b)
            · have cI := fun H => isV_ok hv H
              rw [show valS (a - b) = .ok (a - b) from if_pos hv]
              (have rr1 := dr38_8_X30d; have rr2 := dr38_11_X30d; have rr3 := dr38_16_X30d; have rr4 := dr38_17_X30d; have rr5 := dr38_19_X30d; have ww1 := hlt; have ww2 := hop'; have ww3 := hlk; have ww4 := gf; have ww5 := gm; have ww6 := ra; have ww7 := rb; have ww8 := @zF; have ww9 := @ofMap_fn; have ww10 := ln2; have cc1 := fun z1 z2 => fo z1 z2; have cc2 := fun z1 => cO z1; have cc3 := fun z1 => cI z1; refine wk ?_; clear rr1 rr2 rr3 rr4 rr5 ww1 ww2 ww3 ww4 ww5 ww6 ww7 ww8 ww9 ww10 cc1 cc2 cc3; (repeat' first | exact True.intro | refine Lf.mk ?_ ?_); all_goals intro hP)
              (unfold outV; (refine resX ?_; try exact True.intro))
            · have cI := fun H => isV_no hv H
              rw [show valS (a - b) = .error 3 from if_neg hv]
              (have rr1 := dr38_8_X30d; have rr2 := dr38_11_X30d; have rr3 := dr38_16_X30d; have rr4 := dr38_17_X30d; have rr5 := dr38_19_X30d; have ww1 := hlt; have ww2 := hop'; have ww3 := hlk; have ww4 := gf; have ww5 := gm; have ww6 := ra; have ww7 := rb; have ww8 := @zF; have ww9 := @ofMap_fn; have ww10 := ln2; have cc1 := fun z1 z2 => fo z1 z2; have cc2 := fun z1 z2 => fp z1 z2; have cc3 := fun z1 => cO z1; have cc4 := fun z1 => cI z1; refine wk ?_; clear rr1 rr2 rr3 rr4 rr5 ww1 ww2 ww3 ww4 ww5 ww6 ww7 ww8 ww9 ww10 cc1 cc2 cc3 cc4; (repeat' first | exact True.intro | refine Lf.mk ?_ ?_); all_goals intro hP)
              (unfold outV; (refine panX ?_; try exact True.intro))
          · have hlk : lookI opsT 6 = some (.func (.func 58) #[] #[]) := rfl
            rw [hop']
            rw [show calcS 6 a b = valS (prodS a b) by simp [calcS]]
            by_cases hv : isV (prodS a b)
            · have cI := fun H => isV_ok hv H
              have cO := fun H => op3_ok a b ha hb' hv H
              rw [show valS (prodS a b) = .ok (prodS a b) from if_pos hv]
              (have rr1 := dr38_8_X30d; have rr2 := dr38_11_X30d; have rr3 := dr38_16_X30d; have rr4 := dr38_17_X30d; have rr5 := dr38_19_X30d; have ww1 := hlt; have ww2 := hop'; have ww3 := hlk; have ww4 := gf; have ww5 := gm; have ww6 := ra; have ww7 := rb; have ww8 := @zF; have ww9 := @ofMap_fn; have ww10 := ln2; have cc1 := fun z1 z2 => fo z1 z2; have cc2 := fun z1 => cO z1; have cc3 := fun z1 => cI z1; refine wk ?_; clear rr1 rr2 rr3 rr4 rr5 ww1 ww2 ww3 ww4 ww5 ww6 ww7 ww8 ww9 ww10 cc1 cc2 cc3; (repeat' first | exact True.intro | refine Lf.mk ?_ ?_); all_goals intro hP)
              (unfold outV; (refine resX ?_; try exact True.intro))
            · have cO := fun H => op3_bad a b ha hb' hv H
              rw [show valS (prodS a b) = .error 3 from if_neg hv]
              repeat' (first | refine awp_seq ?_ | refine awp_block ?_ | refine awp_scope ?_ | ((first | refine awp_region_k fun Kn Kp hn hp => ?_ | show AWP _ _ (Code.region 8 _ true) _ _ _; refine awp_drawn_k (id := 8) [] [] [.win [0], .win [0], .win [0], .win [0], .win [0], .win [0], .win [0], .win [0], .win [0], .win [0], .win [0], .win [0]] 0 rfl (by as_aux_lemma => kernel_rfl) fun Kn Kp hn hp => ?_ | show AWP _ _ (Code.region 11 _ true) _ _ _; refine awp_drawn_k (id := 11) [7] [7] [.win [0], .win [0], .win [0], .win [0], .win [0], .win [0], .win [0], .pan [0], .skip] 1 rfl (by as_aux_lemma => kernel_rfl) fun Kn Kp hn hp => ?_ | show AWP _ _ (Code.region 16 _ true) _ _ _; refine awp_drawn_k (id := 16) [] [] [.win [0], .win [0], .win [0], .win [0], .win [0], .win [0], .win [0], .win [0], .win [0], .win [0], .win [0], .win [0], .win [0], .win [0], .win [0], .win [0], .win [0], .win [0], .win [0]] 0 rfl (by as_aux_lemma => kernel_rfl) fun Kn Kp hn hp => ?_ | show AWP _ _ (Code.region 17 _ true) _ _ _; refine awp_drawn_k (id := 17) [] [] [.win [0], .win [0], .win [0], .win [0], .win [0], .win [0], .win [0], .win [0], .win [0]] 0 rfl (by as_aux_lemma => kernel_rfl) fun Kn Kp hn hp => ?_ | show AWP _ _ (Code.region 19 _ true) _ _ _; refine awp_drawn_k (id := 19) [] [] [.win [0], .win [0], .win [0], .win [0], .win [0], .win [0], .win [0], .win [0]] 0 rfl (by as_aux_lemma => kernel_rfl) fun Kn Kp hn hp => ?_ | refine oge_intro (by assumption) ?_ | (show AWE _ _ _ _ _ _ _ _ _; first | refine awe_intro (fo _ _) ?_ | refine awe_intro (cO _) ?_) | (show AWSF _ _ _ _ _ _ _ _ _ _ _; first | refine awsf_intro (fo _ _) (fun hrun => ?_) | refine awsf_intro (cO _) (fun hrun => ?_)) | (show OGE _ _ _ _ _ _ _; first | refine oge_intro (fo _ _) ?_ | refine oge_intro (cO _) ?_) | (show AWSE _ _ _ _ _ _ _ _ _ _ _; first | refine awse_intro (fo _ _) (fun hrun => ?_) | refine awse_intro (cO _) (fun hrun => ?_)) | (show PGE _ _ _ _ _; first | refine pge_intro (fo _ _) (fun tm' => ?_) | refine pge_intro (cO _) (fun tm' => ?_))) <;> (simp only [go_sem, Nat.reduceAdd, Nat.reduceSub, Nat.reduceMul, Nat.reduceLeDiff, Nat.reduceLT, Nat.reduceEqDiff, Int.reduceToNat, Int.reduceAdd, Int.reduceMul, Int.reduceSub, Int.reduceLT, Int.reduceLE, Int.reduceEq, Int.reduceNeg, Int.reduceBEq, Int.reduceBNe, ↓reduceIte, reduceCtorEq, hlt, hop', hlk, gf, gm, ra, rb, zF, ofMap_fn, ln2] <;> try simp (disch := omega) only [wrap_of])) | (refine hn _ _ ?_; clear hn hp Kn Kp) | (refine hp _ _ _ ?_; clear hn hp Kn Kp) | (refine awp_cond rfl (fun hb => ?_) (fun hb => ?_) <;> (try simp only [decide_eq_true_eq, decide_eq_false_iff_not, Bool.not_eq_true', Bool.not_eq_false', Bool.true_eq_false, Bool.false_eq_true, beq_iff_eq, bne_iff_ne, bne_eq_false_iff_eq, beq_eq_false_iff_ne, gt_iff_lt, ge_iff_le, Int.reduceEq, Int.reduceNe, Int.reduceLT, Int.reduceLE, ne_eq, not_true_eq_false, not_false_eq_true] at hb)) | ((first | refine awg_split (fun hb => ?_) (fun hb => ?_) | refine awsg_split (fun hb => ?_) (fun hb => ?_)) <;> have hb0 := hb <;> (try simp only [decide_eq_true_eq, decide_eq_false_iff_not, Bool.not_eq_true', Bool.not_eq_false', Bool.true_eq_false, Bool.false_eq_true, beq_iff_eq, bne_iff_ne, bne_eq_false_iff_eq, beq_eq_false_iff_ne, gt_iff_lt, ge_iff_le, Int.reduceEq, Int.reduceNe, Int.reduceLT, Int.reduceLE, ne_eq, not_true_eq_false, not_false_eq_true] at hb0) <;> (try simp only [beq_true, beq_false, Bool.not_eq_true', Bool.not_eq_false'] at hb) <;> (simp only [go_sem, Nat.reduceAdd, Nat.reduceSub, Nat.reduceMul, Nat.reduceLeDiff, Nat.reduceLT, Nat.reduceEqDiff, Int.reduceToNat, Int.reduceAdd, Int.reduceMul, Int.reduceSub, Int.reduceLT, Int.reduceLE, Int.reduceEq, Int.reduceNeg, Int.reduceBEq, Int.reduceBNe, ↓reduceIte, reduceCtorEq, hlt, hop', hlk, gf, gm, ra, rb, zF, ofMap_fn, ln2, hb, hb0] <;> try simp (disch := omega) only [wrap_of])) | (refine And.intro ?_ ?_) | refine awp_skip ?_ | refine awp_ret ?_ | refine awp_exit ?_ | refine awp_label ?_ | refine awloop_step ?_ | fail)
              (unfold outV; (refine panX ?_; try exact True.intro))
          · have hlk : lookI opsT 7 = some (.func (.func 60) #[] #[]) := rfl
            rw [hop']
            by_cases h0 : b = 0
            · subst h0
              rw [show calcS 7 a 0 = .error 14 by simp [calcS]]
              have cO := fun H => op4_bad a H
              repeat' (first | refine awp_seq ?_ | refine awp_block ?_ | refine awp_scope ?_ | ((first | refine awp_region_k fun Kn Kp hn hp => ?_ | show AWP _ _ (Code.region 8 _ true) _ _ _; refine awp_drawn_k (id := 8) [] [] [.win [0], .win [0], .win [0], .win [0], .win [0], .win [0], .win [0], .win [0], .win [0], .win [0], .win [0], .win [0]] 0 rfl (by as_aux_lemma => kernel_rfl) fun Kn Kp hn hp => ?_ | show AWP _ _ (Code.region 11 _ true) _ _ _; refine awp_drawn_k (id := 11) [7] [7] [.win [0], .win [0], .win [0], .win [0], .win [0], .win [0], .win [0], .pan [0], .skip] 1 rfl (by as_aux_lemma => kernel_rfl) fun Kn Kp hn hp => ?_ | show AWP _ _ (Code.region 16 _ true) _ _ _; refine awp_drawn_k (id := 16) [] [] [.win [0], .win [0], .win [0], .win [0], .win [0], .win [0], .win [0], .win [0], .win [0], .win [0], .win [0], .win [0], .win [0], .win [0], .win [0], .win [0], .win [0], .win [0], .win [0]] 0 rfl (by as_aux_lemma => kernel_rfl) fun Kn Kp hn hp => ?_ | show AWP _ _ (Code.region 17 _ true) _ _ _; refine awp_drawn_k (id := 17) [] [] [.win [0], .win [0], .win [0], .win [0], .win [0], .win [0], .win [0], .win [0], .win [0]] 0 rfl (by as_aux_lemma => kernel_rfl) fun Kn Kp hn hp => ?_ | show AWP _ _ (Code.region 19 _ true) _ _ _; refine awp_drawn_k (id := 19) [] [] [.win [0], .win [0], .win [0], .win [0], .win [0], .win [0], .win [0], .win [0]] 0 rfl (by as_aux_lemma => kernel_rfl) fun Kn Kp hn hp => ?_ | refine oge_intro (by assumption) ?_ | (show AWE _ _ _ _ _ _ _ _ _; first | refine awe_intro (fo _ _) ?_ | refine awe_intro (cO _) ?_) | (show AWSF _ _ _ _ _ _ _ _ _ _ _; first | refine awsf_intro (fo _ _) (fun hrun => ?_) | refine awsf_intro (cO _) (fun hrun => ?_)) | (show OGE _ _ _ _ _ _ _; first | refine oge_intro (fo _ _) ?_ | refine oge_intro (cO _) ?_) | (show AWSE _ _ _ _ _ _ _ _ _ _ _; first | refine awse_intro (fo _ _) (fun hrun => ?_) | refine awse_intro (cO _) (fun hrun => ?_)) | (show PGE _ _ _ _ _; first | refine pge_intro (fo _ _) (fun tm' => ?_) | refine pge_intro (cO _) (fun tm' => ?_))) <;> (simp only [go_sem, Nat.reduceAdd, Nat.reduceSub, Nat.reduceMul, Nat.reduceLeDiff, Nat.reduceLT, Nat.reduceEqDiff, Int.reduceToNat, Int.reduceAdd, Int.reduceMul, Int.reduceSub, Int.reduceLT, Int.reduceLE, Int.reduceEq, Int.reduceNeg, Int.reduceBEq, Int.reduceBNe, ↓reduceIte, reduceCtorEq, hlt, hop', hlk, gf, gm, ra, rb, zF, ofMap_fn, ln2] <;> try simp (disch := omega) only [wrap_of])) | (refine hn _ _ ?_; clear hn hp Kn Kp) | (refine hp _ _ _ ?_; clear hn hp Kn Kp) | (refine awp_cond rfl (fun hb => ?_) (fun hb => ?_) <;> (try simp only [decide_eq_true_eq, decide_eq_false_iff_not, Bool.not_eq_true', Bool.not_eq_false', Bool.true_eq_false, Bool.false_eq_true, beq_iff_eq, bne_iff_ne, bne_eq_false_iff_eq, beq_eq_false_iff_ne, gt_iff_lt, ge_iff_le, Int.reduceEq, Int.reduceNe, Int.reduceLT, Int.reduceLE, ne_eq, not_true_eq_false, not_false_eq_true] at hb)) | ((first | refine awg_split (fun hb => ?_) (fun hb => ?_) | refine awsg_split (fun hb => ?_) (fun hb => ?_)) <;> have hb0 := hb <;> (try simp only [decide_eq_true_eq, decide_eq_false_iff_not, Bool.not_eq_true', Bool.not_eq_false', Bool.true_eq_false, Bool.false_eq_true, beq_iff_eq, bne_iff_ne, bne_eq_false_iff_eq, beq_eq_false_iff_ne, gt_iff_lt, ge_iff_le, Int.reduceEq, Int.reduceNe, Int.reduceLT, Int.reduceLE, ne_eq, not_true_eq_false, not_false_eq_true] at hb0) <;> (try simp only [beq_true, beq_false, Bool.not_eq_true', Bool.not_eq_false'] at hb) <;> (simp only [go_sem, Nat.reduceAdd, Nat.reduceSub, Nat.reduceMul, Nat.reduceLeDiff, Nat.reduceLT, Nat.reduceEqDiff, Int.reduceToNat, Int.reduceAdd, Int.reduceMul, Int.reduceSub, Int.reduceLT, Int.reduceLE, Int.reduceEq, Int.reduceNeg, Int.reduceBEq, Int.reduceBNe, ↓reduceIte, reduceCtorEq, hlt, hop', hlk, gf, gm, ra, rb, zF, ofMap_fn, ln2, hb, hb0] <;> try simp (disch := omega) only [wrap_of])) | (refine And.intro ?_ ?_) | refine awp_skip ?_ | refine awp_ret ?_ | refine awp_exit ?_ | refine awp_label ?_ | refine awloop_step ?_ | fail)
              (unfold outV; (refine panX ?_; try exact True.intro))
            · rw [show calcS 7 a b = valS (downS a b) by simp [calcS, h0]]
              have cO := fun H => op4_ok a b ha hb' h0 H
              by_cases hv : isV (downS a b)
              · have cI := fun H => isV_ok hv H
                rw [show valS (downS a b) = .ok (downS a b) from if_pos hv]
                (have rr1 := dr38_8_X30d; have rr2 := dr38_11_X30d; have rr3 := dr38_16_X30d; have rr4 := dr38_17_X30d; have rr5 := dr38_19_X30d; have ww1 := hlt; have ww2 := hop'; have ww3 := hlk; have ww4 := gf; have ww5 := gm; have ww6 := ra; have ww7 := rb; have ww8 := @zF; have ww9 := @ofMap_fn; have ww10 := ln2; have cc1 := fun z1 z2 => fo z1 z2; have cc2 := fun z1 => cO z1; have cc3 := fun z1 => cI z1; refine wk ?_; clear rr1 rr2 rr3 rr4 rr5 ww1 ww2 ww3 ww4 ww5 ww6 ww7 ww8 ww9 ww10 cc1 cc2 cc3; (repeat' first | exact True.intro | refine Lf.mk ?_ ?_); all_goals intro hP)
                (unfold outV; (refine resX ?_; try exact True.intro))
              · have cI := fun H => isV_no hv H
                rw [show valS (downS a b) = .error 3 from if_neg hv]
                (have rr1 := dr38_8_X30d; have rr2 := dr38_11_X30d; have rr3 := dr38_16_X30d; have rr4 := dr38_17_X30d; have rr5 := dr38_19_X30d; have ww1 := hlt; have ww2 := hop'; have ww3 := hlk; have ww4 := gf; have ww5 := gm; have ww6 := ra; have ww7 := rb; have ww8 := @zF; have ww9 := @ofMap_fn; have ww10 := ln2; have cc1 := fun z1 z2 => fo z1 z2; have cc2 := fun z1 z2 => fp z1 z2; have cc3 := fun z1 => cO z1; have cc4 := fun z1 => cI z1; refine wk ?_; clear rr1 rr2 rr3 rr4 rr5 ww1 ww2 ww3 ww4 ww5 ww6 ww7 ww8 ww9 ww10 cc1 cc2 cc3 cc4; (repeat' first | exact True.intro | refine Lf.mk ?_ ?_); all_goals intro hP)
                (unfold outV; (refine panX ?_; try exact True.intro))
          · have hlk : lookI opsT 8 = some (.func (.func 62) #[] #[]) := rfl
            rw [hop']
            by_cases h0 : b = 0
            · subst h0
              rw [show calcS 8 a 0 = .error 14 by simp [calcS]]
              have cO := fun H => op5_bad a H
              repeat' (first | refine awp_seq ?_ | refine awp_block ?_ | refine awp_scope ?_ | ((first | refine awp_region_k fun Kn Kp hn hp => ?_ | show AWP _ _ (Code.region 8 _ true) _ _ _; refine awp_drawn_k (id := 8) [] [] [.win [0], .win [0], .win [0], .win [0], .win [0], .win [0], .win [0], .win [0], .win [0], .win [0], .win [0], .win [0]] 0 rfl (by as_aux_lemma => kernel_rfl) fun Kn Kp hn hp => ?_ | show AWP _ _ (Code.region 11 _ true) _ _ _; refine awp_drawn_k (id := 11) [7] [7] [.win [0], .win [0], .win [0], .win [0], .win [0], .win [0], .win [0], .pan [0], .skip] 1 rfl (by as_aux_lemma => kernel_rfl) fun Kn Kp hn hp => ?_ | show AWP _ _ (Code.region 16 _ true) _ _ _; refine awp_drawn_k (id := 16) [] [] [.win [0], .win [0], .win [0], .win [0], .win [0], .win [0], .win [0], .win [0], .win [0], .win [0], .win [0], .win [0], .win [0], .win [0], .win [0], .win [0], .win [0], .win [0], .win [0]] 0 rfl (by as_aux_lemma => kernel_rfl) fun Kn Kp hn hp => ?_ | show AWP _ _ (Code.region 17 _ true) _ _ _; refine awp_drawn_k (id := 17) [] [] [.win [0], .win [0], .win [0], .win [0], .win [0], .win [0], .win [0], .win [0], .win [0]] 0 rfl (by as_aux_lemma => kernel_rfl) fun Kn Kp hn hp => ?_ | show AWP _ _ (Code.region 19 _ true) _ _ _; refine awp_drawn_k (id := 19) [] [] [.win [0], .win [0], .win [0], .win [0], .win [0], .win [0], .win [0], .win [0]] 0 rfl (by as_aux_lemma => kernel_rfl) fun Kn Kp hn hp => ?_ | refine oge_intro (by assumption) ?_ | (show AWE _ _ _ _ _ _ _ _ _; first | refine awe_intro (fo _ _) ?_ | refine awe_intro (cO _) ?_) | (show AWSF _ _ _ _ _ _ _ _ _ _ _; first | refine awsf_intro (fo _ _) (fun hrun => ?_) | refine awsf_intro (cO _) (fun hrun => ?_)) | (show OGE _ _ _ _ _ _ _; first | refine oge_intro (fo _ _) ?_ | refine oge_intro (cO _) ?_) | (show AWSE _ _ _ _ _ _ _ _ _ _ _; first | refine awse_intro (fo _ _) (fun hrun => ?_) | refine awse_intro (cO _) (fun hrun => ?_)) | (show PGE _ _ _ _ _; first | refine pge_intro (fo _ _) (fun tm' => ?_) | refine pge_intro (cO _) (fun tm' => ?_))) <;> (simp only [go_sem, Nat.reduceAdd, Nat.reduceSub, Nat.reduceMul, Nat.reduceLeDiff, Nat.reduceLT, Nat.reduceEqDiff, Int.reduceToNat, Int.reduceAdd, Int.reduceMul, Int.reduceSub, Int.reduceLT, Int.reduceLE, Int.reduceEq, Int.reduceNeg, Int.reduceBEq, Int.reduceBNe, ↓reduceIte, reduceCtorEq, hlt, hop', hlk, gf, gm, ra, rb, zF, ofMap_fn, ln2] <;> try simp (disch := omega) only [wrap_of])) | (refine hn _ _ ?_; clear hn hp Kn Kp) | (refine hp _ _ _ ?_; clear hn hp Kn Kp) | (refine awp_cond rfl (fun hb => ?_) (fun hb => ?_) <;> (try simp only [decide_eq_true_eq, decide_eq_false_iff_not, Bool.not_eq_true', Bool.not_eq_false', Bool.true_eq_false, Bool.false_eq_true, beq_iff_eq, bne_iff_ne, bne_eq_false_iff_eq, beq_eq_false_iff_ne, gt_iff_lt, ge_iff_le, Int.reduceEq, Int.reduceNe, Int.reduceLT, Int.reduceLE, ne_eq, not_true_eq_false, not_false_eq_true] at hb)) | ((first | refine awg_split (fun hb => ?_) (fun hb => ?_) | refine awsg_split (fun hb => ?_) (fun hb => ?_)) <;> have hb0 := hb <;> (try simp only [decide_eq_true_eq, decide_eq_false_iff_not, Bool.not_eq_true', Bool.not_eq_false', Bool.true_eq_false, Bool.false_eq_true, beq_iff_eq, bne_iff_ne, bne_eq_false_iff_eq, beq_eq_false_iff_ne, gt_iff_lt, ge_iff_le, Int.reduceEq, Int.reduceNe, Int.reduceLT, Int.reduceLE, ne_eq, not_true_eq_false, not_false_eq_true] at hb0) <;> (try simp only [beq_true, beq_false, Bool.not_eq_true', Bool.not_eq_false'] at hb) <;> (simp only [go_sem, Nat.reduceAdd, Nat.reduceSub, Nat.reduceMul, Nat.reduceLeDiff, Nat.reduceLT, Nat.reduceEqDiff, Int.reduceToNat, Int.reduceAdd, Int.reduceMul, Int.reduceSub, Int.reduceLT, Int.reduceLE, Int.reduceEq, Int.reduceNeg, Int.reduceBEq, Int.reduceBNe, ↓reduceIte, reduceCtorEq, hlt, hop', hlk, gf, gm, ra, rb, zF, ofMap_fn, ln2, hb, hb0] <;> try simp (disch := omega) only [wrap_of])) | (refine And.intro ?_ ?_) | refine awp_skip ?_ | refine awp_ret ?_ | refine awp_exit ?_ | refine awp_label ?_ | refine awloop_step ?_ | fail)
              (unfold outV; (refine panX ?_; try exact True.intro))
            · rw [show calcS 8 a b = valS (-downS (-a) b) by simp [calcS, h0]]
              have cO := fun H => op5_ok a b ha hb' h0 H
              by_cases hv : isV (-downS (-a) b)
              · have cI := fun H => isV_ok hv H
                rw [show valS (-downS (-a) b) = .ok (-downS (-a) b) from if_pos hv]
                (have rr1 := dr38_8_X30d; have rr2 := dr38_11_X30d; have rr3 := dr38_16_X30d; have rr4 := dr38_17_X30d; have rr5 := dr38_19_X30d; have ww1 := hlt; have ww2 := hop'; have ww3 := hlk; have ww4 := gf; have ww5 := gm; have ww6 := ra; have ww7 := rb; have ww8 := @zF; have ww9 := @ofMap_fn; have ww10 := ln2; have cc1 := fun z1 z2 => fo z1 z2; have cc2 := fun z1 => cO z1; have cc3 := fun z1 => cI z1; refine wk ?_; clear rr1 rr2 rr3 rr4 rr5 ww1 ww2 ww3 ww4 ww5 ww6 ww7 ww8 ww9 ww10 cc1 cc2 cc3; (repeat' first | exact True.intro | refine Lf.mk ?_ ?_); all_goals intro hP)
                (unfold outV; (refine resX ?_; try exact True.intro))
              · have cI := fun H => isV_no hv H
                rw [show valS (-downS (-a) b) = .error 3 from if_neg hv]
                (have rr1 := dr38_8_X30d; have rr2 := dr38_11_X30d; have rr3 := dr38_16_X30d; have rr4 := dr38_17_X30d; have rr5 := dr38_19_X30d; have ww1 := hlt; have ww2 := hop'; have ww3 := hlk; have ww4 := gf; have ww5 := gm; have ww6 := ra; have ww7 := rb; have ww8 := @zF; have ww9 := @ofMap_fn; have ww10 := ln2; have cc1 := fun z1 z2 => fo z1 z2; have cc2 := fun z1 z2 => fp z1 z2; have cc3 := fun z1 => cO z1; have cc4 := fun z1 => cI z1; refine wk ?_; clear rr1 rr2 rr3 rr4 rr5 ww1 ww2 ww3 ww4 ww5 ww6 ww7 ww8 ww9 ww10 cc1 cc2 cc3 cc4; (repeat' first | exact True.intro | refine Lf.mk ?_ ?_); all_goals intro hP)
                (unfold outV; (refine panX ?_; try exact True.intro))
          · have hlk : lookI opsT 9 = some (.func (.func 63) #[] #[]) := rfl
            rw [hop']
            rw [show calcS 9 a b = valS (if b < a then b else a) by simp [calcS]]
            have cO := fun H => op6_run a b H
            generalize (if b < a then b else a) = r9 at *
            by_cases hv : isV (r9)
            · have cI := fun H => isV_ok hv H
              rw [show valS (r9) = .ok (r9) from if_pos hv]
              (have rr1 := dr38_8_X30d; have rr2 := dr38_11_X30d; have rr3 := dr38_16_X30d; have rr4 := dr38_17_X30d; have rr5 := dr38_19_X30d; have ww1 := hlt; have ww2 := hop'; have ww3 := hlk; have ww4 := gf; have ww5 := gm; have ww6 := ra; have ww7 := rb; have ww8 := @zF; have ww9 := @ofMap_fn; have ww10 := ln2; have cc1 := fun z1 z2 => fo z1 z2; have cc2 := fun z1 => cO z1; have cc3 := fun z1 => cI z1; refine wk ?_; clear rr1 rr2 rr3 rr4 rr5 ww1 ww2 ww3 ww4 ww5 ww6 ww7 ww8 ww9 ww10 cc1 cc2 cc3; (repeat' first | exact True.intro | refine Lf.mk ?_ ?_); all_goals intro hP)
              (unfold outV; (refine resX ?_; try exact True.intro))
            · have cI := fun H => isV_no hv H
              rw [show valS (r9) = .error 3 from if_neg hv]
              (have rr1 := dr38_8_X30d; have rr2 := dr38_11_X30d; have rr3 := dr38_16_X30d; have rr4 := dr38_17_X30d; have rr5 := dr38_19_X30d; have ww1 := hlt; have ww2 := hop'; have ww3 := hlk; have ww4 := gf; have ww5 := gm; have ww6 := ra; have ww7 := rb; have ww8 := @zF; have ww9 := @ofMap_fn; have ww10 := ln2; have cc1 := fun z1 z2 => fo z1 z2; have cc2 := fun z1 z2 => fp z1 z2; have cc3 := fun z1 => cO z1; have cc4 := fun z1 => cI z1; refine wk ?_; clear rr1 rr2 rr3 rr4 rr5 ww1 ww2 ww3 ww4 ww5 ww6 ww7 ww8 ww9 ww10 cc1 cc2 cc3 cc4; (repeat' first | exact True.intro | refine Lf.mk ?_ ?_); all_goals intro hP)
              (unfold outV; (refine panX ?_; try exact True.intro))
          · have hlk : lookI opsT 10 = some (.func (.func 64) #[] #[]) := rfl
            rw [hop']
            rw [show calcS 10 a b = valS (if a < b then b else a) by simp [calcS]]
            have cO := fun H => op7_run a b H
            generalize (if a < b then b else a) = r9 at *
            by_cases hv : isV (r9)
            · have cI := fun H => isV_ok hv H
              rw [show valS (r9) = .ok (r9) from if_pos hv]
              (have rr1 := dr38_8_X30d; have rr2 := dr38_11_X30d; have rr3 := dr38_16_X30d; have rr4 := dr38_17_X30d; have rr5 := dr38_19_X30d; have ww1 := hlt; have ww2 := hop'; have ww3 := hlk; have ww4 := gf; have ww5 := gm; have ww6 := ra; have ww7 := rb; have ww8 := @zF; have ww9 := @ofMap_fn; have ww10 := ln2; have cc1 := fun z1 z2 => fo z1 z2; have cc2 := fun z1 => cO z1; have cc3 := fun z1 => cI z1; refine wk ?_; clear rr1 rr2 rr3 rr4 rr5 ww1 ww2 ww3 ww4 ww5 ww6 ww7 ww8 ww9 ww10 cc1 cc2 cc3; (repeat' first | exact True.intro | refine Lf.mk ?_ ?_); all_goals intro hP)
              (unfold outV; (refine resX ?_; try exact True.intro))
            · have cI := fun H => isV_no hv H
              rw [show valS (r9) = .error 3 from if_neg hv]
              (have rr1 := dr38_8_X30d; have rr2 := dr38_11_X30d; have rr3 := dr38_16_X30d; have rr4 := dr38_17_X30d; have rr5 := dr38_19_X30d; have ww1 := hlt; have ww2 := hop'; have ww3 := hlk; have ww4 := gf; have ww5 := gm; have ww6 := ra; have ww7 := rb; have ww8 := @zF; have ww9 := @ofMap_fn; have ww10 := ln2; have cc1 := fun z1 z2 => fo z1 z2; have cc2 := fun z1 z2 => fp z1 z2; have cc3 := fun z1 => cO z1; have cc4 := fun z1 => cI z1; refine wk ?_; clear rr1 rr2 rr3 rr4 rr5 ww1 ww2 ww3 ww4 ww5 ww6 ww7 ww8 ww9 ww10 cc1 cc2 cc3 cc4; (repeat' first | exact True.intro | refine Lf.mk ?_ ?_); all_goals intro hP)
              (unfold outV; (refine panX ?_; try exact True.intro))
        · have hn2 : nodeV st i0 i1 i2 i3 e.op e.n acc = .error 1 := by
            unfold nodeV; rw [if_pos hop]
            match acc, hl2 with
            | [], _ => rfl
            | [_], _ => rfl
            | _ :: _ :: _ :: _, _ => rfl
          rw [hn2]
          have hop2 : e.op = 4 ∨ e.op = 5 ∨ e.op = 6 ∨ e.op = 7 ∨ e.op = 8 ∨ e.op = 9 ∨ e.op = 10 := by omega
          have hne : ((acc.length : Int) != 2) = true := by simp; omega
          obtain ⟨g, hlk⟩ : ∃ g, lookI opsT e.op = some (.func (.func g) #[] #[]) := by
            rcases hop2 with h | h | h | h | h | h | h <;> rw [h] <;> exact ⟨_, rfl⟩
          (have rr1 := dr38_8_X30d; have rr2 := dr38_11_X30d; have rr3 := dr38_16_X30d; have rr4 := dr38_17_X30d; have rr5 := dr38_19_X30d; have ww1 := hlt; have ww2 := hlk; have ww3 := gf; have ww4 := gm; have ww5 := @zF; have ww6 := @ofMap_fn; have ww7 := hne; have ww8 := ln; have cc1 := fun z1 z2 => fo z1 z2; have cc2 := fun z1 z2 => fp z1 z2; refine wk ?_; clear rr1 rr2 rr3 rr4 rr5 ww1 ww2 ww3 ww4 ww5 ww6 ww7 ww8 cc1 cc2; (repeat' first | exact True.intro | refine Lf.mk ?_ ?_); all_goals intro hP)
          (unfold outV; (refine panX ?_; try exact True.intro))
      · have hlk := look_no hop
        by_cases hl0 : acc.length = 0
        · obtain rfl : acc = [] := List.eq_nil_of_length_eq_zero hl0
          have ln0 : (nR []).length = 0 := rfl
          have hn2 : nodeV st i0 i1 i2 i3 e.op e.n [] = leafV st i0 i1 i2 i3 e.op e.n := by unfold nodeV; rw [if_neg hop]; rfl
          rw [hn2]
          by_cases o1 : e.op = 1
          · rw [show leafV st i0 i1 i2 i3 e.op e.n = valS e.n by unfold leafV; rw [if_pos o1]]
            rw [o1] at hlk
            by_cases hv : isV (e.n)
            · have cI := fun H => isV_ok hv H
              rw [show valS (e.n) = .ok (e.n) from if_pos hv]
              (have rr1 := dr38_8_X30d; have rr2 := dr38_11_X30d; have rr3 := dr38_16_X30d; have rr4 := dr38_17_X30d; have rr5 := dr38_19_X30d; have ww1 := hlt; have ww2 := hlk; have ww3 := gf; have ww4 := gm; have ww5 := gs; have ww6 := @zF; have ww7 := @ofMap_nil; have ww8 := ln0; have ww9 := o1; have cc1 := fun z1 z2 => fo z1 z2; have cc2 := fun z1 => cI z1; refine wk ?_; clear rr1 rr2 rr3 rr4 rr5 ww1 ww2 ww3 ww4 ww5 ww6 ww7 ww8 ww9 cc1 cc2; (repeat' first | exact True.intro | refine Lf.mk ?_ ?_); all_goals intro hP)
              (unfold outV; (refine resX ?_; try exact True.intro))
            · have cI := fun H => isV_no hv H
              rw [show valS (e.n) = .error 3 from if_neg hv]
              (have rr1 := dr38_8_X30d; have rr2 := dr38_11_X30d; have rr3 := dr38_16_X30d; have rr4 := dr38_17_X30d; have rr5 := dr38_19_X30d; have ww1 := hlt; have ww2 := hlk; have ww3 := gf; have ww4 := gm; have ww5 := gs; have ww6 := @zF; have ww7 := @ofMap_nil; have ww8 := ln0; have ww9 := o1; have cc1 := fun z1 z2 => fo z1 z2; have cc2 := fun z1 z2 => fp z1 z2; have cc3 := fun z1 => cI z1; refine wk ?_; clear rr1 rr2 rr3 rr4 rr5 ww1 ww2 ww3 ww4 ww5 ww6 ww7 ww8 ww9 cc1 cc2 cc3; (repeat' first | exact True.intro | refine Lf.mk ?_ ?_); all_goals intro hP)
              (unfold outV; (refine panX ?_; try exact True.intro))
          have o1' : (e.op == 1) = false := by simpa using o1
          by_cases o2 : e.op = 2 ∧ 0 ≤ e.n ∧ e.n < st.length
          · obtain ⟨p2, q0, q1⟩ := o2
            rw [p2] at hlk
            rw [show leafV st i0 i1 i2 i3 e.op e.n = valS (st.getD e.n.toNat 0) by unfold leafV; rw [if_neg o1, if_pos ⟨p2, q0, q1⟩]]
            have hx : (nR st)[e.n.toNat]? = some [.i (st.getD e.n.toNat 0)] := by
              have hlt2 : e.n.toNat < st.length := by omega
              simp only [pvRows, List.map_map]
              rw [List.getElem?_map, List.getD_eq_getElem?_getD, List.getElem?_eq_getElem hlt2]; rfl
            have lst : (nR st).length = st.length := nR_len st
            generalize st.getD e.n.toNat 0 = sv at *
            by_cases hv : isV (sv)
            · have cI := fun H => isV_ok hv H
              rw [show valS (sv) = .ok (sv) from if_pos hv]
              (have rr1 := dr38_8_X30d; have rr2 := dr38_11_X30d; have rr3 := dr38_16_X30d; have rr4 := dr38_17_X30d; have rr5 := dr38_19_X30d; have ww1 := hlt; have ww2 := hlk; have ww3 := gf; have ww4 := gm; have ww5 := gs; have ww6 := @zF; have ww7 := @ofMap_nil; have ww8 := ln0; have ww9 := o1'; have ww10 := p2; have ww11 := q0; have ww12 := q1; have ww13 := hx; have ww14 := lst; have cc1 := fun z1 z2 => fo z1 z2; have cc2 := fun z1 => cI z1; refine wk ?_; clear rr1 rr2 rr3 rr4 rr5 ww1 ww2 ww3 ww4 ww5 ww6 ww7 ww8 ww9 ww10 ww11 ww12 ww13 ww14 cc1 cc2; (repeat' first | exact True.intro | refine Lf.mk ?_ ?_); all_goals intro hP)
              (unfold outV; (refine resX ?_; try exact True.intro))
            · have cI := fun H => isV_no hv H
              rw [show valS (sv) = .error 3 from if_neg hv]
              (have rr1 := dr38_8_X30d; have rr2 := dr38_11_X30d; have rr3 := dr38_16_X30d; have rr4 := dr38_17_X30d; have rr5 := dr38_19_X30d; have ww1 := hlt; have ww2 := hlk; have ww3 := gf; have ww4 := gm; have ww5 := gs; have ww6 := @zF; have ww7 := @ofMap_nil; have ww8 := ln0; have ww9 := o1'; have ww10 := p2; have ww11 := q0; have ww12 := q1; have ww13 := hx; have ww14 := lst; have cc1 := fun z1 z2 => fo z1 z2; have cc2 := fun z1 z2 => fp z1 z2; have cc3 := fun z1 => cI z1; refine wk ?_; clear rr1 rr2 rr3 rr4 rr5 ww1 ww2 ww3 ww4 ww5 ww6 ww7 ww8 ww9 ww10 ww11 ww12 ww13 ww14 cc1 cc2 cc3; (repeat' first | exact True.intro | refine Lf.mk ?_ ?_); all_goals intro hP)
              (unfold outV; (refine panX ?_; try exact True.intro))
          by_cases o3 : e.op = 3 ∧ 0 ≤ e.n ∧ e.n < 4
          · obtain ⟨p3, q0, q1⟩ := o3
            rw [p3] at hlk
            have hnn : e.n = 0 ∨ e.n = 1 ∨ e.n = 2 ∨ e.n = 3 := by omega
            rw [show leafV st i0 i1 i2 i3 e.op e.n = valS (inS i0 i1 i2 i3 e.n.toNat) by unfold leafV; rw [if_neg o1, if_neg o2, if_pos ⟨p3, q0, q1⟩]]
            rcases hnn with hnn | hnn | hnn | hnn
            · rw [show inS i0 i1 i2 i3 e.n.toNat = i0 by rw [hnn]; rfl]
              by_cases hv : isV (i0)
              · have cI := fun H => isV_ok hv H
                rw [show valS (i0) = .ok (i0) from if_pos hv]
                (have rr1 := dr38_8_X30d; have rr2 := dr38_11_X30d; have rr3 := dr38_16_X30d; have rr4 := dr38_17_X30d; have rr5 := dr38_19_X30d; have ww1 := hlt; have ww2 := hlk; have ww3 := gf; have ww4 := gm; have ww5 := gs; have ww6 := @zF; have ww7 := @ofMap_nil; have ww8 := ln0; have ww9 := o1'; have ww10 := p3; have ww11 := hnn; have cc1 := fun z1 z2 => fo z1 z2; have cc2 := fun z1 => cI z1; refine wk ?_; clear rr1 rr2 rr3 rr4 rr5 ww1 ww2 ww3 ww4 ww5 ww6 ww7 ww8 ww9 ww10 ww11 cc1 cc2; (repeat' first | exact True.intro | refine Lf.mk ?_ ?_); all_goals intro hP)
                (unfold outV; (refine resX ?_; try exact True.intro))
              · have cI := fun H => isV_no hv H
                rw [show valS (i0) = .error 3 from if_neg hv]
                (have rr1 := dr38_8_X30d; have rr2 := dr38_11_X30d; have rr3 := dr38_16_X30d; have rr4 := dr38_17_X30d; have rr5 := dr38_19_X30d; have ww1 := hlt; have ww2 := hlk; have ww3 := gf; have ww4 := gm; have ww5 := gs; have ww6 := @zF; have ww7 := @ofMap_nil; have ww8 := ln0; have ww9 := o1'; have ww10 := p3; have ww11 := hnn; have cc1 := fun z1 z2 => fo z1 z2; have cc2 := fun z1 z2 => fp z1 z2; have cc3 := fun z1 => cI z1; refine wk ?_; clear rr1 rr2 rr3 rr4 rr5 ww1 ww2 ww3 ww4 ww5 ww6 ww7 ww8 ww9 ww10 ww11 cc1 cc2 cc3; (repeat' first | exact True.intro | refine Lf.mk ?_ ?_); all_goals intro hP)
                (unfold outV; (refine panX ?_; try exact True.intro))
            · rw [show inS i0 i1 i2 i3 e.n.toNat = i1 by rw [hnn]; rfl]
              by_cases hv : isV (i1)
              · have cI := fun H => isV_ok hv H
                rw [show valS (i1) = .ok (i1) from if_pos hv]
                (have rr1 := dr38_8_X30d; have rr2 := dr38_11_X30d; have rr3 := dr38_16_X30d; have rr4 := dr38_17_X30d; have rr5 := dr38_19_X30d; have ww1 := hlt; have ww2 := hlk; have ww3 := gf; have ww4 := gm; have ww5 := gs; have ww6 := @zF; have ww7 := @ofMap_nil; have ww8 := ln0; have ww9 := o1'; have ww10 := p3; have ww11 := hnn; have cc1 := fun z1 z2 => fo z1 z2; have cc2 := fun z1 => cI z1; refine wk ?_; clear rr1 rr2 rr3 rr4 rr5 ww1 ww2 ww3 ww4 ww5 ww6 ww7 ww8 ww9 ww10 ww11 cc1 cc2; (repeat' first | exact True.intro | refine Lf.mk ?_ ?_); all_goals intro hP)
                (unfold outV; (refine resX ?_; try exact True.intro))
              · have cI := fun H => isV_no hv H
                rw [show valS (i1) = .error 3 from if_neg hv]
                (have rr1 := dr38_8_X30d; have rr2 := dr38_11_X30d; have rr3 := dr38_16_X30d; have rr4 := dr38_17_X30d; have rr5 := dr38_19_X30d; have ww1 := hlt; have ww2 := hlk; have ww3 := gf; have ww4 := gm; have ww5 := gs; have ww6 := @zF; have ww7 := @ofMap_nil; have ww8 := ln0; have ww9 := o1'; have ww10 := p3; have ww11 := hnn; have cc1 := fun z1 z2 => fo z1 z2; have cc2 := fun z1 z2 => fp z1 z2; have cc3 := fun z1 => cI z1; refine wk ?_; clear rr1 rr2 rr3 rr4 rr5 ww1 ww2 ww3 ww4 ww5 ww6 ww7 ww8 ww9 ww10 ww11 cc1 cc2 cc3; (repeat' first | exact True.intro | refine Lf.mk ?_ ?_); all_goals intro hP)
                (unfold outV; (refine panX ?_; try exact True.intro))
            · rw [show inS i0 i1 i2 i3 e.n.toNat = i2 by rw [hnn]; rfl]
              by_cases hv : isV (i2)
              · have cI := fun H => isV_ok hv H
                rw [show valS (i2) = .ok (i2) from if_pos hv]
                (have rr1 := dr38_8_X30d; have rr2 := dr38_11_X30d; have rr3 := dr38_16_X30d; have rr4 := dr38_17_X30d; have rr5 := dr38_19_X30d; have ww1 := hlt; have ww2 := hlk; have ww3 := gf; have ww4 := gm; have ww5 := gs; have ww6 := @zF; have ww7 := @ofMap_nil; have ww8 := ln0; have ww9 := o1'; have ww10 := p3; have ww11 := hnn; have cc1 := fun z1 z2 => fo z1 z2; have cc2 := fun z1 => cI z1; refine wk ?_; clear rr1 rr2 rr3 rr4 rr5 ww1 ww2 ww3 ww4 ww5 ww6 ww7 ww8 ww9 ww10 ww11 cc1 cc2; (repeat' first | exact True.intro | refine Lf.mk ?_ ?_); all_goals intro hP)
                (unfold outV; (refine resX ?_; try exact True.intro))
              · have cI := fun H => isV_no hv H
                rw [show valS (i2) = .error 3 from if_neg hv]
                (have rr1 := dr38_8_X30d; have rr2 := dr38_11_X30d; have rr3 := dr38_16_X30d; have rr4 := dr38_17_X30d; have rr5 := dr38_19_X30d; have ww1 := hlt; have ww2 := hlk; have ww3 := gf; have ww4 := gm; have ww5 := gs; have ww6 := @zF; have ww7 := @ofMap_nil; have ww8 := ln0; have ww9 := o1'; have ww10 := p3; have ww11 := hnn; have cc1 := fun z1 z2 => fo z1 z2; have cc2 := fun z1 z2 => fp z1 z2; have cc3 := fun z1 => cI z1; refine wk ?_; clear rr1 rr2 rr3 rr4 rr5 ww1 ww2 ww3 ww4 ww5 ww6 ww7 ww8 ww9 ww10 ww11 cc1 cc2 cc3; (repeat' first | exact True.intro | refine Lf.mk ?_ ?_); all_goals intro hP)
                (unfold outV; (refine panX ?_; try exact True.intro))
            · rw [show inS i0 i1 i2 i3 e.n.toNat = i3 by rw [hnn]; rfl]
              by_cases hv : isV (i3)
              · have cI := fun H => isV_ok hv H
                rw [show valS (i3) = .ok (i3) from if_pos hv]
                (have rr1 := dr38_8_X30d; have rr2 := dr38_11_X30d; have rr3 := dr38_16_X30d; have rr4 := dr38_17_X30d; have rr5 := dr38_19_X30d; have ww1 := hlt; have ww2 := hlk; have ww3 := gf; have ww4 := gm; have ww5 := gs; have ww6 := @zF; have ww7 := @ofMap_nil; have ww8 := ln0; have ww9 := o1'; have ww10 := p3; have ww11 := hnn; have cc1 := fun z1 z2 => fo z1 z2; have cc2 := fun z1 => cI z1; refine wk ?_; clear rr1 rr2 rr3 rr4 rr5 ww1 ww2 ww3 ww4 ww5 ww6 ww7 ww8 ww9 ww10 ww11 cc1 cc2; (repeat' first | exact True.intro | refine Lf.mk ?_ ?_); all_goals intro hP)
                (unfold outV; (refine resX ?_; try exact True.intro))
              · have cI := fun H => isV_no hv H
                rw [show valS (i3) = .error 3 from if_neg hv]
                (have rr1 := dr38_8_X30d; have rr2 := dr38_11_X30d; have rr3 := dr38_16_X30d; have rr4 := dr38_17_X30d; have rr5 := dr38_19_X30d; have ww1 := hlt; have ww2 := hlk; have ww3 := gf; have ww4 := gm; have ww5 := gs; have ww6 := @zF; have ww7 := @ofMap_nil; have ww8 := ln0; have ww9 := o1'; have ww10 := p3; have ww11 := hnn; have cc1 := fun z1 z2 => fo z1 z2; have cc2 := fun z1 z2 => fp z1 z2; have cc3 := fun z1 => cI z1; refine wk ?_; clear rr1 rr2 rr3 rr4 rr5 ww1 ww2 ww3 ww4 ww5 ww6 ww7 ww8 ww9 ww10 ww11 cc1 cc2 cc3; (repeat' first | exact True.intro | refine Lf.mk ?_ ?_); all_goals intro hP)
                (unfold outV; (refine panX ?_; try exact True.intro))
          · rw [show leafV st i0 i1 i2 i3 e.op e.n = .error 1 by unfold leafV; rw [if_neg o1, if_neg o2, if_neg o3]]
            have lst : (nR st).length = st.length := nR_len st
            have fpe : ∀ H, ARun Tryz.prog 59 [.b true, .i 1] H (.pan (xF 1) H) := fun H => fail_pan 1 H
            by_cases p2 : e.op = 2
            · have p3 : ¬ e.op = 3 := by omega
              rw [p2] at hlk
              by_cases q0 : 0 ≤ e.n
              · have q1 : ¬ e.n < st.length := fun h => o2 ⟨p2, q0, h⟩
                (have rr1 := dr38_8_X30d; have rr2 := dr38_11_X30d; have rr3 := dr38_16_X30d; have rr4 := dr38_17_X30d; have rr5 := dr38_19_X30d; have ww1 := hlt; have ww2 := hlk; have ww3 := gf; have ww4 := gm; have ww5 := gs; have ww6 := @zF; have ww7 := @ofMap_nil; have ww8 := ln0; have ww9 := o1'; have ww10 := p2; have ww11 := q0; have ww12 := q1; have ww13 := lst; have cc1 := fun z1 z2 => fo z1 z2; have cc2 := fun z1 => fpe z1; refine wk ?_; clear rr1 rr2 rr3 rr4 rr5 ww1 ww2 ww3 ww4 ww5 ww6 ww7 ww8 ww9 ww10 ww11 ww12 ww13 cc1 cc2; (repeat' first | exact True.intro | refine Lf.mk ?_ ?_); all_goals intro hP)
                (unfold outV; (refine panX ?_; try exact True.intro))
              · (have rr1 := dr38_8_X30d; have rr2 := dr38_11_X30d; have rr3 := dr38_16_X30d; have rr4 := dr38_17_X30d; have rr5 := dr38_19_X30d; have ww1 := hlt; have ww2 := hlk; have ww3 := gf; have ww4 := gm; have ww5 := gs; have ww6 := @zF; have ww7 := @ofMap_nil; have ww8 := ln0; have ww9 := o1'; have ww10 := p2; have ww11 := q0; have ww12 := lst; have cc1 := fun z1 z2 => fo z1 z2; have cc2 := fun z1 => fpe z1; refine wk ?_; clear rr1 rr2 rr3 rr4 rr5 ww1 ww2 ww3 ww4 ww5 ww6 ww7 ww8 ww9 ww10 ww11 ww12 cc1 cc2; (repeat' first | exact True.intro | refine Lf.mk ?_ ?_); all_goals intro hP)
                (unfold outV; (refine panX ?_; try exact True.intro))
            · have p2' : (e.op == 2) = false := by simpa using p2
              by_cases p3 : e.op = 3
              · rw [p3] at hlk
                by_cases q0 : 0 ≤ e.n
                · have q1 : ¬ e.n < 4 := fun h => o3 ⟨p3, q0, h⟩
                  (have rr1 := dr38_8_X30d; have rr2 := dr38_11_X30d; have rr3 := dr38_16_X30d; have rr4 := dr38_17_X30d; have rr5 := dr38_19_X30d; have ww1 := hlt; have ww2 := hlk; have ww3 := gf; have ww4 := gm; have ww5 := gs; have ww6 := @zF; have ww7 := @ofMap_nil; have ww8 := ln0; have ww9 := o1'; have ww10 := p3; have ww11 := q0; have ww12 := q1; have ww13 := lst; have cc1 := fun z1 z2 => fo z1 z2; have cc2 := fun z1 => fpe z1; refine wk ?_; clear rr1 rr2 rr3 rr4 rr5 ww1 ww2 ww3 ww4 ww5 ww6 ww7 ww8 ww9 ww10 ww11 ww12 ww13 cc1 cc2; (repeat' first | exact True.intro | refine Lf.mk ?_ ?_); all_goals intro hP)
                  (unfold outV; (refine panX ?_; try exact True.intro))
                · (have rr1 := dr38_8_X30d; have rr2 := dr38_11_X30d; have rr3 := dr38_16_X30d; have rr4 := dr38_17_X30d; have rr5 := dr38_19_X30d; have ww1 := hlt; have ww2 := hlk; have ww3 := gf; have ww4 := gm; have ww5 := gs; have ww6 := @zF; have ww7 := @ofMap_nil; have ww8 := ln0; have ww9 := o1'; have ww10 := p3; have ww11 := q0; have ww12 := lst; have cc1 := fun z1 z2 => fo z1 z2; have cc2 := fun z1 => fpe z1; refine wk ?_; clear rr1 rr2 rr3 rr4 rr5 ww1 ww2 ww3 ww4 ww5 ww6 ww7 ww8 ww9 ww10 ww11 ww12 cc1 cc2; (repeat' first | exact True.intro | refine Lf.mk ?_ ?_); all_goals intro hP)
                  (unfold outV; (refine panX ?_; try exact True.intro))
              · have p3' : (e.op == 3) = false := by simpa using p3
                (have rr1 := dr38_8_X30d; have rr2 := dr38_11_X30d; have rr3 := dr38_16_X30d; have rr4 := dr38_17_X30d; have rr5 := dr38_19_X30d; have ww1 := hlt; have ww2 := hlk; have ww3 := gf; have ww4 := gm; have ww5 := gs; have ww6 := @zF; have ww7 := @ofMap_nil; have ww8 := ln0; have ww9 := o1'; have ww10 := p2'; have ww11 := p3'; have ww12 := lst; have cc1 := fun z1 z2 => fo z1 z2; have cc2 := fun z1 => fpe z1; refine wk ?_; clear rr1 rr2 rr3 rr4 rr5 ww1 ww2 ww3 ww4 ww5 ww6 ww7 ww8 ww9 ww10 ww11 ww12 cc1 cc2; (repeat' first | exact True.intro | refine Lf.mk ?_ ?_); all_goals intro hP)
                (unfold outV; (refine panX ?_; try exact True.intro))
        · have hn2 : nodeV st i0 i1 i2 i3 e.op e.n acc = .error 1 := by unfold nodeV; rw [if_neg hop, if_neg hl0]
          rw [hn2]
          have hgt : (0 : Int) < acc.length := by omega
          (have rr1 := dr38_8_X30d; have rr2 := dr38_11_X30d; have rr3 := dr38_16_X30d; have rr4 := dr38_17_X30d; have rr5 := dr38_19_X30d; have ww1 := hlt; have ww2 := hlk; have ww3 := gf; have ww4 := gm; have ww5 := @zF; have ww6 := @ofMap_nil; have ww7 := ln; have ww8 := hgt; have cc1 := fun z1 z2 => fo z1 z2; have cc2 := fun z1 z2 => fp z1 z2; refine wk ?_; clear rr1 rr2 rr3 rr4 rr5 ww1 ww2 ww3 ww4 ww5 ww6 ww7 ww8 cc1 cc2; (repeat' first | exact True.intro | refine Lf.mk ?_ ?_); all_goals intro hP)
          (unfold outV; (refine panX ?_; try exact True.intro))
    | cons k rest =>
      obtain ⟨hk, hlt, hd, hm⟩ := drop_cons hr
      have hw : IntKind.i64.wrap ((i : Int) + 1) = ((i + 1 : Nat) : Int) := by rw [wrap_of (by omega) (by omega)]; omega
      have hk' : (e.kids.map encE)[i]? = some (cE k) := by rw [List.getElem?_map, hk, Option.map_some, encE_eq]
      have c := fun L => ih k hm (by have := nodes_mem hm; omega) fid mid V (H0 ++ L) (hF.app L) (getOut hS L)
      cases hv : valE st i0 i1 i2 i3 k with
      | error x =>
        have hall : valE st i0 i1 i2 i3 e = .error x := by
          rw [valE_eq]
          have : e.kids = e.kids.take i ++ k :: rest := by rw [← hr, List.take_append_drop]
          rw [this, valEs_fail h4 hv]
        rw [hall]
        simp only [hv, outV] at c
        (have rr1 := dr38_8_X30d; have rr2 := dr38_11_X30d; have rr3 := dr38_16_X30d; have rr4 := dr38_17_X30d; have rr5 := dr38_19_X30d; have ww1 := hlt; have ww2 := hk'; have cc1 := fun z1 => c z1; refine wk ?_; clear rr1 rr2 rr3 rr4 rr5 ww1 ww2 cc1; (repeat' first | exact True.intro | refine Lf.mk ?_ ?_); all_goals intro hP)
        (unfold outV; (refine panX ?_; try exact True.intro))
      | ok v =>
        have hs : valEs st i0 i1 i2 i3 (e.kids.take (i + 1)) = .ok (acc ++ [v]) := by
          rw [List.take_add_one, hk]; exact valEs_snoc h4 hv
        simp only [hv, outV] at c
        have p1 := nR_one acc v
        (have rr1 := dr38_8_X30d; have rr2 := dr38_11_X30d; have rr3 := dr38_16_X30d; have rr4 := dr38_17_X30d; have rr5 := dr38_19_X30d; have ww1 := hlt; have ww2 := hk'; have ww3 := hw; have ww4 := p1; have ww5 := ln; have cc1 := fun z1 => c z1; refine wkO ?_; clear rr1 rr2 rr3 rr4 rr5 ww1 ww2 ww3 ww4 ww5 cc1; (repeat' first | exact True.intro | refine Lf.mk ?_ ?_); all_goals intro hP)
        refine ⟨(i + 1, acc ++ [v]), by simp only; omega, ⟨by simp only; omega, by simp [h2], hs⟩, ?_⟩
        refine Wk.keepE 2 1 rfl (by simp) (by intro o ho; simp only [List.mem_cons, List.not_mem_nil, or_false] at ho; rcases ho with rfl | rfl; (simp [AObj.under, AV.under]); exact under_pvRows _) ?_
        have hfl2 : fid < H0.length + 2 := by omega
        simp only [List.map_cons, List.map_nil, AV.low, hfl2, List.length_append, List.length_cons, List.length_nil, Nat.lt_irrefl, if_false, Fgt, true_or, or_true, and_true, true_and, Nat.lt_add_right_iff_pos, Nat.add_lt_add_iff_left, Nat.lt_add_one, Nat.reduceLT, if_true, eq_self, Nat.zero_add]
theorem mholds_run (a rel b : Int) (hr : 1 ≤ rel ∧ rel ≤ 6) (H0 : List AObj) : ARun Tryz.prog 69 [.i rel, .i a, .i b] H0 (.ret (.b (holdsS a rel b)) H0) := by
  have hc : rel = 1 ∨ rel = 2 ∨ rel = 3 ∨ rel = 4 ∨ rel = 5 ∨ rel = 6 := by omega
  clear hr
  rcases hc with rfl | rfl | rfl | rfl | rfl | rfl
  all_goals
    (refine ARun.intro Tryz.func69 rfl Tryz.call69 Tryz.ntmps69 Tryz.results69 ?_; simp only [List.length_cons, List.length_nil, List.length_map, Nat.reduceAdd, Nat.reduceSub, List.replicate_succ, List.replicate_zero, List.cons_append, List.nil_append])
    (refine wk ?_; (repeat' first | exact True.intro | refine Lf.mk ?_ ?_); all_goals intro hP)
    (refine resX ?_; try exact True.intro)
    all_goals simp [holdsS]
end Go.Proofs.YtpfjlifneibhfaaGreat.Y
namespace Go.Proofs.YtpfjlifneibhfaaGreat.AL
section
variable (vs : List Vr) (i0 i1 i2 i3 : Int)
/- The state when a failing run stops. -/
mutual
def stopS : St → List Int → List Int
  | .mk kind var rel a b t e, st => match valE st i0 i1 i2 i3 a with
    | .error _ => st
    | .ok x => if kind = 1 then st else match valE st i0 i1 i2 i3 b with
      | .error _ => st
      | .ok y => if holdsS x rel y = true then stopL t st else stopL e st
def stopL : List St → List Int → List Int
  | [], st => st
  | s :: ss, st => match runStS vs i0 i1 i2 i3 s st with
    | .error _ => stopS s st
    | .ok st' => stopL ss st'
end
theorem stopS_eq (s : St) (st : List Int) : stopS vs i0 i1 i2 i3 s st = match valE st i0 i1 i2 i3 s.a with
    | .error _ => st
    | .ok x => if s.kind = 1 then st else match valE st i0 i1 i2 i3 s.b with
      | .error _ => st
      | .ok y => if holdsS x s.rel y = true then stopL vs i0 i1 i2 i3 s.thn st else stopL vs i0 i1 i2 i3 s.els st := by cases s; rw [stopS]; rfl
end
section
variable {vs : List Vr} {i0 i1 i2 i3 : Int}
theorem runStL_nil (st : List Int) : runStL vs i0 i1 i2 i3 [] st = .ok st := by simp [runStL]
theorem runStL_cons (s : St) (ss : List St) (st : List Int) : runStL vs i0 i1 i2 i3 (s :: ss) st = match runStS vs i0 i1 i2 i3 s st with
    | .error x => .error x
    | .ok st' => runStL vs i0 i1 i2 i3 ss st' := by rw [runStL]; rfl
theorem runStL_app : ∀ (a b : List St) (st : List Int), runStL vs i0 i1 i2 i3 (a ++ b) st = match runStL vs i0 i1 i2 i3 a st with
    | .error x => .error x
    | .ok st' => runStL vs i0 i1 i2 i3 b st'
  | [], b, st => by simp [runStL]
  | s :: a, b, st => by
    rw [List.cons_append, runStL_cons, runStL_cons]
    cases h : runStS vs i0 i1 i2 i3 s st with
    | error x => rfl
    | ok st' => exact runStL_app a b st'
end
section
variable {vs : List Vr} {i0 i1 i2 i3 : Int}
theorem runStS_len (s : St) : ∀ st st', runStS vs i0 i1 i2 i3 s st = .ok st' → st'.length = st.length := by
  have hl : ∀ l : List St, (∀ k ∈ l, ∀ st st', runStS vs i0 i1 i2 i3 k st = .ok st' → st'.length = st.length) → ∀ st st', runStL vs i0 i1 i2 i3 l st = .ok st' → st'.length = st.length := by
    intro l
    induction l with
    | nil => intro _ st st' h; rw [runStL_nil] at h; cases h; rfl
    | cons x xs ih =>
      intro h st st' hr
      rw [runStL_cons] at hr
      cases hq : runStS vs i0 i1 i2 i3 x st with
      | error y => rw [hq] at hr; cases hr
      | ok st1 => rw [hq] at hr; rw [ih (fun k hk => h k (by simp [hk])) st1 st' hr, h x (by simp) st st1 hq]
  induction s using St.ind with
  | h s h1 h2 =>
    intro st st' hr
    rw [runStS_eq] at hr
    repeat' split at hr
    all_goals first
      | (cases hr; done)
      | exact hl _ h1 st st' hr
      | exact hl _ h2 st st' hr
      | (cases hr; simp)
theorem runStL_len : ∀ (l : List St) (st st' : List Int), runStL vs i0 i1 i2 i3 l st = .ok st' → st'.length = st.length
  | [], st, st', h => by rw [runStL_nil] at h; cases h; rfl
  | s :: l, st, st', hr => by
    rw [runStL_cons] at hr
    cases hq : runStS vs i0 i1 i2 i3 s st with
    | error y => rw [hq] at hr; cases hr
    | ok st1 => rw [hq] at hr; rw [runStL_len l st1 st' hr, runStS_len s st st1 hq]
theorem stopL_nil (st : List Int) : stopL vs i0 i1 i2 i3 [] st = st := by simp [stopL]
theorem stopL_cons (s : St) (ss : List St) (st : List Int) : stopL vs i0 i1 i2 i3 (s :: ss) st = match runStS vs i0 i1 i2 i3 s st with
    | .error _ => stopS vs i0 i1 i2 i3 s st
    | .ok st' => stopL vs i0 i1 i2 i3 ss st' := by rw [stopL]
end
/-- A state of variables. -/
def stIn : List Vr → List Int → Bool
  | v :: vs, n :: ns => decide (v.low ≤ n ∧ n ≤ v.high) && stIn vs ns
  | [], [] => true
  | _, _ => false
theorem stIn_len : ∀ {vs : List Vr} {st : List Int}, stIn vs st = true → st.length = vs.length
  | [], [], _ => rfl
  | [], _ :: _, h => by simp [stIn] at h
  | _ :: _, [], h => by simp [stIn] at h
  | v :: vs, n :: ns, h => by
    simp only [stIn, Bool.and_eq_true] at h
    simp [stIn_len h.2]
theorem stIn_set : ∀ {vs : List Vr} {st : List Int} {k : Nat} {v : Vr} {x : Int}, stIn vs st = true → vs[k]? = some v → v.low ≤ x ∧ x ≤ v.high → stIn vs (st.set k x) = true
  | [], [], k, v, x, _, hv, _ => by simp at hv
  | [], _ :: _, _, _, _, h, _, _ => by simp [stIn] at h
  | _ :: _, [], _, _, _, h, _, _ => by simp [stIn] at h
  | w :: vs, n :: ns, 0, v, x, h, hv, hx => by
    simp only [List.getElem?_cons_zero, Option.some.injEq] at hv
    subst hv
    simp only [stIn, Bool.and_eq_true, List.set_cons_zero, decide_eq_true_eq] at h ⊢
    exact ⟨hx, h.2⟩
  | w :: vs, n :: ns, k + 1, v, x, h, hv, hx => by
    simp only [List.getElem?_cons_succ] at hv
    simp only [stIn, Bool.and_eq_true, List.set_cons_succ] at h ⊢
    exact ⟨h.1, stIn_set h.2 hv hx⟩
/-- Statements without an error of units: their expressions have a value, or an error of range or of a quotient. -/
theorem valE_sure {us : List Un} {st : List Int} {i0 i1 i2 i3 : Int} (hl : st.length = us.length) (e : Ex) : ∀ u, inf us e = .ok u → ∀ x, valE st i0 i1 i2 i3 e = .error x → x = 3 ∨ x = 14 := by
  induction e using Ex.ind with
  | h e ih =>
    intro u hu x hx
    rcases inf_grants hu with ⟨hk, hop⟩ | ⟨a, b, p, q, hk, h1, h2, ha, hb0⟩
    · rw [valE_eq, hk] at hx
      simp only [valEs, nodeV, leafV, List.length_nil, if_true] at hx
      have hno : ¬ (4 ≤ e.op ∧ e.op ≤ 10) := by omega
      rw [if_neg hno] at hx
      repeat' split at hx
      all_goals first
        | (have := (valS_err hx).2; omega)
        | skip
      exfalso
      rename_i n1 n2 n3
      omega
    · rw [valE_eq, hk] at hx
      simp only [valEs] at hx
      cases hva : valE st i0 i1 i2 i3 a with
      | error y => rw [hva] at hx; simp only [Except.error.injEq] at hx; subst hx; exact ih a (by rw [hk]; simp) p ha y hva
      | ok va =>
        rw [hva] at hx
        cases hvb : valE st i0 i1 i2 i3 b with
        | error y => rw [hvb] at hx; simp only [Except.error.injEq] at hx; subst hx; exact ih b (by rw [hk]; simp) q hb0 y hvb
        | ok vb =>
          rw [hvb] at hx
          simp only [nodeV] at hx
          rw [if_pos (by omega)] at hx
          exact calcS_err hx
theorem stSL_cons {us : List Un} {s : St} {ss : List St} (h : stSL us (s :: ss) = 0) : stS us s = 0 ∧ stSL us ss = 0 := by
  simp only [stSL] at h
  split at h
  · exact ⟨by assumption, h⟩
  · contradiction
section
variable {vs : List Vr} {us : List Un} {i0 i1 i2 i3 : Int}
/-- What a run of checked statements comes to. -/
def RunTo (vs : List Vr) (r : Except Int (List Int)) : Prop := match r with
  | .ok st' => stIn vs st' = true
  | .error x => x = 3 ∨ x = 14 ∨ x = 15
theorem runStS_comes (hlen : us.length = vs.length) (s : St) : stS us s = 0 → ∀ st, stIn vs st = true → RunTo vs (runStS vs i0 i1 i2 i3 s st) := by
  have hl : ∀ l : List St, (∀ k ∈ l, stS us k = 0 → ∀ st, stIn vs st = true → RunTo vs (runStS vs i0 i1 i2 i3 k st)) → stSL us l = 0 → ∀ st, stIn vs st = true → RunTo vs (runStL vs i0 i1 i2 i3 l st) := by
    intro l
    induction l with
    | nil => intro _ _ st h; rw [runStL_nil]; exact h
    | cons x xs ih =>
      intro h h2 st hs
      obtain ⟨hx, hxs⟩ := stSL_cons h2
      have h1 := h x (by simp) hx st hs
      rw [runStL_cons]
      cases hr : runStS vs i0 i1 i2 i3 x st with
      | error y => rw [hr] at h1; exact h1
      | ok st' => rw [hr] at h1; exact ih (fun k hk => h k (by simp [hk])) hxs st' h1
  induction s using St.ind with
  | h s h1 h2 =>
    intro h st hs
    have hsl := stIn_len hs
    rw [runStS_eq]
    rcases stS_ok h with ⟨hk1, hv0, hv1, u, hu⟩ | ⟨hk2, hr1, hr2, ⟨u, hu⟩, ⟨u', hu'⟩, ht, he⟩
    · cases hva : valE st i0 i1 i2 i3 s.a with
      | error y => have := valE_sure (by omega) s.a u hu y hva; simp only [RunTo]; omega
      | ok x =>
        simp only
        rw [if_pos hk1]
        have hlt : s.var.toNat < vs.length := by omega
        rw [List.getElem?_eq_getElem hlt]
        simp only
        split
        · exact stIn_set hs (List.getElem?_eq_getElem hlt) (by assumption)
        · simp [RunTo]
    · cases hva : valE st i0 i1 i2 i3 s.a with
      | error y => have := valE_sure (by omega) s.a u hu y hva; simp only [RunTo]; omega
      | ok x =>
        simp only
        rw [if_neg (by omega)]
        cases hvb : valE st i0 i1 i2 i3 s.b with
        | error y => have := valE_sure (by omega) s.b u' hu' y hvb; simp only [RunTo]; omega
        | ok y =>
          simp only
          split
          · exact hl _ h1 ht st hs
          · exact hl _ h2 he st hs
theorem runStL_comes (hlen : us.length = vs.length) : ∀ (l : List St), stSL us l = 0 → ∀ st, stIn vs st = true → RunTo vs (runStL vs i0 i1 i2 i3 l st)
  | [], _, st, hs => by rw [runStL_nil]; exact hs
  | s :: l, h, st, hs => by
    obtain ⟨hx, hxs⟩ := stSL_cons h
    have h1 := runStS_comes (i0 := i0) (i1 := i1) (i2 := i2) (i3 := i3) hlen s hx st hs
    rw [runStL_cons]
    cases hr : runStS vs i0 i1 i2 i3 s st with
    | error y => rw [hr] at h1; exact h1
    | ok st' => rw [hr] at h1; exact runStL_comes hlen l hxs st' h1
end
end Go.Proofs.YtpfjlifneibhfaaGreat.AL
namespace Go.Proofs.YtpfjlifneibhfaaGreat.Y
open Go.Proofs.YtpfjlifneibhfaaGreat.AL Go.Proofs Go
attribute [local irreducible] AWP AWL AWG AWR AWE AWX AWO AWSeq AWSG AWSR AWSO AWSE AWSF GoodP OGW OGR OGE OGX PGW PGR PGE Wk AWLoop AWPD AWLD
def mS (sid : Nat) (H : List AObj) (st : List Int) : List AObj := H.set sid (.arr 3 1 (nR st))
/-- A frame with a state of one's own lies in the memory. -/
structure Fs (fid mid sid : Nat) (H : List AObj) (V : AV) (st : List Int) (i0 i1 i2 i3 : Int) : Prop where
  f : Frm fid mid H V (.os sid 0 st.length st.length) i0 i1 i2 i3
  s : H[sid]? = some (.arr 3 1 (nR st))
theorem mS_len (sid : Nat) (H : List AObj) (st : List Int) : (mS sid H st).length = H.length := by simp [mS]
section
variable {fid mid sid : Nat} {H : List AObj} {V : AV} {st : List Int} {i0 i1 i2 i3 : Int}
theorem Fs.app (h : Fs fid mid sid H V st i0 i1 i2 i3) (L : List AObj) : Fs fid mid sid (H ++ L) V st i0 i1 i2 i3 := ⟨h.f.app L, getOut h.s L⟩
theorem Fs.nef (h : Fs fid mid sid H V st i0 i1 i2 i3) : sid ≠ fid := fun e => by have := h.s; rw [e, h.f.f] at this; cases this
theorem Fs.nem (h : Fs fid mid sid H V st i0 i1 i2 i3) : sid ≠ mid := fun e => by have := h.s; rw [e, h.f.m] at this; cases this
theorem Fs.lt (h : Fs fid mid sid H V st i0 i1 i2 i3) : sid < H.length := (List.getElem?_eq_some_iff.1 h.s).1
theorem Fs.to (h : Fs fid mid sid H V st i0 i1 i2 i3) {st' : List Int} (hl : st'.length = st.length) : Fs fid mid sid (mS sid H st') V st' i0 i1 i2 i3 := by
  refine ⟨⟨?_, ?_⟩, ?_⟩
  · unfold mS; rw [List.getElem?_set_ne h.nef, hl]; exact h.f.f
  · unfold mS; rw [List.getElem?_set_ne h.nem]; exact h.f.m
  · unfold mS; rw [List.getElem?_set_self h.lt]
theorem Fs.mApp (h : Fs fid mid sid H V st i0 i1 i2 i3) (st' : List Int) (L : List AObj) : mS sid (H ++ L) st' = mS sid H st' ++ L := by
  unfold mS; rw [List.set_append_left _ _ h.lt]
theorem Fs.self (h : Fs fid mid sid H V st i0 i1 i2 i3) : mS sid H st = H := by
  obtain ⟨a1, a2⟩ := List.getElem?_eq_some_iff.1 h.s
  unfold mS; rw [← a2, List.set_getElem_self]
end
theorem mS_mm (sid : Nat) (H : List AObj) (a b : List Int) : mS sid (mS sid H a) b = mS sid H b := by simp [mS]
theorem mS_get0 (sid : Nat) (H : List AObj) (X : List Int) (o : AObj) (L : List AObj) : (mS sid H X ++ o :: L)[H.length]? = some o := by
  rw [List.getElem?_append_right (by rw [mS_len]; exact Nat.le_refl _), mS_len, Nat.sub_self]; rfl
theorem mS_getk (sid : Nat) (H : List AObj) (X : List Int) (L : List AObj) (k : Nat) : (mS sid H X ++ L)[H.length + k]? = L[k]? := by
  rw [List.getElem?_append_right (by rw [mS_len]; omega), mS_len, Nat.add_sub_cancel_left]
theorem mS_set0 (sid : Nat) (H : List AObj) (X : List Int) (o x : AObj) (L : List AObj) : (mS sid H X ++ o :: L).set H.length x = mS sid H X ++ x :: L := by
  rw [List.set_append_right _ _ (by rw [mS_len]; exact Nat.le_refl _), mS_len, Nat.sub_self]; rfl
theorem mS_setk (sid : Nat) (H : List AObj) (X : List Int) (L : List AObj) (k : Nat) (x : AObj) : (mS sid H X ++ L).set (H.length + k) x = mS sid H X ++ L.set k x := by
  rw [List.set_append_right _ _ (by rw [mS_len]; omega), mS_len, Nat.add_sub_cancel_left]
theorem mS_put {sid : Nat} {H : List AObj} (h : sid < H.length) (X Y : List Int) (L : List AObj) : (mS sid H X ++ L).set sid (.arr 3 1 (nR Y)) = mS sid H Y ++ L := by
  rw [List.set_append_left _ _ (by rw [mS_len]; exact h)]; simp [mS]
theorem nR_set (l : List Int) (k : Nat) (n : Int) : (nR l).set k [.i n] = nR (l.set k n) := by simp [pvRows, List.map_set]
/-- What a run of statements comes to. -/
def outR (sid : Nat) (H : List AObj) : Except Int (List Int) → List Int → AOut
  | .ok st', _ => .ret (.tup []) (mS sid H st')
  | .error x, st' => .pan (xF x) (mS sid H st')
theorem mS_finR {sid : Nat} {H : List AObj} (hs : sid < H.length) (st : List Int) (L : List AObj) {v v2 : AV} (d : Nat) (hv : v2 = v.low (mS sid H st ++ L) H.length d) : Fin H (mS sid H st ++ L) v (mS sid H st) v2 := by
  unfold mS at *
  exact Fin.set d (under_pvRows _) hv
theorem mS_fin0 {sid : Nat} {H : List AObj} (hs : sid < H.length) (st : List Int) {v v2 : AV} (d : Nat) (hv : v2 = v.low (mS sid H st) H.length d) : Fin H (mS sid H st) v (mS sid H st) v2 := by
  unfold mS at *
  exact Fin.set0 d (under_pvRows _) hv
theorem mS_fall {sid : Nat} {H0 L : List AObj} {X : List Int} {tm tm' : List AV} (d : Nat) (ht : Fgt (tm.map fun c => c.low (mS sid H0 X ++ L) H0.length d) tm') :
    Wk H0 tm (mS sid H0 X ++ L) tm' (mS sid H0 X) := by
  refine Wk.to d ⟨Nat.le_refl _, by simp [mS_len], fun id o hid ho => ?_⟩ (by have := takeO (mS sid H0 X) L; rwa [mS_len] at this) ht
  rw [List.getElem?_append_left (by rw [mS_len]; exact hid)] at ho
  by_cases h : sid = id
  · subst h
    unfold mS at ho
    rw [List.getElem?_set_self (by have := (List.getElem?_eq_some_iff.1 ho).1; simpa using this)] at ho
    simp only [Option.some.injEq] at ho
    subst ho
    exact .inr (under_pvRows _)
  · unfold mS at ho
    rw [List.getElem?_set_ne h] at ho
    exact .inl ho
def outRL (sid : Nat) (H L : List AObj) : Except Int (List Int) → List Int → AOut
  | .ok st', _ => .ret (.tup []) (mS sid H st' ++ L)
  | .error x, st' => .pan (xF x) (mS sid H st' ++ L)
theorem Fs.lift {fid mid sid : Nat} {H0 : List AObj} {V : AV} {st X : List Int} {i0 i1 i2 i3 : Int} (hF : Fs fid mid sid H0 V st i0 i1 i2 i3) (hX : X.length = st.length) {f : FuncId} {args : List AV} {r : Except Int (List Int)} {z : List Int}
    (h : ∀ H, Fs fid mid sid H V X i0 i1 i2 i3 → ARun Tryz.prog f args H (outR sid H r z)) (L : List AObj) : ARun Tryz.prog f args (mS sid H0 X ++ L) (outRL sid H0 L r z) := by
  have h1 := hF.to hX
  have := h _ (h1.app L)
  cases r with
  | ok st' => simp only [outR] at this; simp only [outRL]; rwa [h1.mApp, mS_mm] at this
  | error x => simp only [outR] at this; simp only [outRL]; rwa [h1.mApp, mS_mm] at this
theorem Fs.val {fid mid sid : Nat} {H0 : List AObj} {V : AV} {st X : List Int} {i0 i1 i2 i3 : Int} (hF : Fs fid mid sid H0 V st i0 i1 i2 i3) (hX : X.length = st.length) (hb : st.length ≤ 1000000) (e : Ex) (hn : nodes e ≤ 1000000) (L : List AObj) :
    ARun Tryz.prog 38 [.p fid 0, .ag (cE e)] (mS sid H0 X ++ L) (outV (valE X i0 i1 i2 i3 e) (mS sid H0 X ++ L)) := by
  have h1 := (hF.to hX).app L
  exact value_os sid X i0 i1 i2 i3 (by omega) e hn fid mid V _ h1.f h1.s
theorem dr42_5_X30g : Drawn Tryz.prog 5 (regOps 5 ((Tryz.f42.body).getD .skip)) [8, 9] [] [.win [0, 1], .win [0, 1], .win [0, 1], .win [0, 1], .win [0, 1], .win [0, 1], .win [0, 1], .win [0, 1], .eff 0, .eff 1] 2 [] := ⟨rfl, by as_aux_lemma => kernel_rfl⟩
theorem dr42_7_X30g : Drawn Tryz.prog 7 (regOps 7 ((Tryz.f42.body).getD .skip)) [8] [] [.win [0], .win [0], .win [0], .win [0], .win [0], .win [0], .win [0], .win [0], .eff 0] 1 [] := ⟨rfl, by as_aux_lemma => kernel_rfl⟩
theorem stSL_memM {vs : List Un} : ∀ {l : List St}, stSL vs l = 0 → ∀ s ∈ l, stS vs s = 0
  | [], _, s, hs => by cases hs
  | x :: l, h, s, hs => by
    obtain ⟨hx, hxs⟩ := stSL_cons h
    rcases List.mem_cons.1 hs with rfl | hs
    · exact hx
    · exact stSL_memM hxs s hs
theorem mrun_run {vs : List Vr} {us : List Un} (hus : us.length = vs.length) (hvl : vs.length ≤ 1000000) (fid mid sid : Nat) (i0 i1 i2 i3 : Int) : ∀ (N : Nat) (l : List St), totL l ≤ N → stSL us l = 0 → fineL l → totL l ≤ 1000000000 → ∀ (st : List Int) (H0 : List AObj), st.length = vs.length → Fs fid mid sid H0 (.rs 5 (vs.map encV)) st i0 i1 i2 i3 →
    ARun Tryz.prog 42 [.p fid 0, .rs 13 (l.map encS)] H0 (outR sid H0 (runStL vs i0 i1 i2 i3 l st) (stopL vs i0 i1 i2 i3 l st)) := by
  intro N
  induction N with
  | zero =>
    intro l hN hv hfi hmb st H0 hsl hF
    have hl0 : l = [] := List.eq_nil_of_length_eq_zero (by have := len_totL l; omega)
    subst hl0
    rw [runStL_nil, stopL_nil]
    simp only [outR]
    rw [hF.self, List.map_nil]
    (refine ARun.intro Tryz.func42 rfl Tryz.call42 Tryz.ntmps42 Tryz.results42 ?_; simp only [List.length_cons, List.length_nil, List.length_map, Nat.reduceAdd, Nat.reduceSub, List.replicate_succ, List.replicate_zero, List.cons_append, List.nil_append])
    (have rr1 := dr42_5_X30g; have rr2 := dr42_7_X30g; refine wkS ?_; clear rr1 rr2; (repeat' first | exact True.intro | refine Lf.mk ?_ ?_); all_goals intro hP)
    refine awp_loop 1 ?_
    (have rr1 := dr42_5_X30g; have rr2 := dr42_7_X30g; refine wkS ?_; clear rr1 rr2; (repeat' first | exact True.intro | refine Lf.mk ?_ ?_); all_goals intro hP)
    (refine resX ?_; try exact True.intro)
  | succ N ih =>
    intro l hN hv hfi hmb st H0 hsl hF
    have hll : l.length ≤ 1000000000 := by have := len_totL l; omega
    have m0 := mS_get0 sid H0
    have mk := mS_getk sid H0
    have n0 := mS_set0 sid H0
    have nk := mS_setk sid H0
    have ml := mS_len sid H0
    have hinit := hF.self
    have hfl := (List.getElem?_eq_some_iff.1 hF.f.f).1
    have fo := fun e H => fail_ok e H
    have fp := fun e H => fail_pan e H
    (refine ARun.intro Tryz.func42 rfl Tryz.call42 Tryz.ntmps42 Tryz.results42 ?_; simp only [List.length_cons, List.length_nil, List.length_map, Nat.reduceAdd, Nat.reduceSub, List.replicate_succ, List.replicate_zero, List.cons_append, List.nil_append])
    (have rr1 := dr42_5_X30g; have rr2 := dr42_7_X30g; refine wkS ?_; clear rr1 rr2; (repeat' first | exact True.intro | refine Lf.mk ?_ ?_); all_goals intro hP)
    refine awp_loop_ind (σ := Nat × List Int) (fun s => l.length - s.1) (fun s => s.1 ≤ l.length ∧ s.2.length = st.length ∧ runStL vs i0 i1 i2 i3 (l.drop s.1) s.2 = runStL vs i0 i1 i2 i3 l st ∧ stopL vs i0 i1 i2 i3 (l.drop s.1) s.2 = stopL vs i0 i1 i2 i3 l st)
      (fun s => (.p fid 0 :: .any :: .any :: .any :: .any :: .any :: .any :: .any :: .any :: .rs 13 (l.map encS) :: .i l.length :: .i s.1 :: .any :: .any :: .any :: .any :: .any :: .any :: .any :: .any :: .any :: .any :: .any :: .any :: .any :: .any :: .any :: .any :: .any :: .any :: .any :: .any :: .any :: .any :: .any :: .any :: .any :: .any :: .any :: .any :: .any :: .any :: .any :: .any :: .any :: .any :: .any :: .any :: .any :: .any :: .any :: .any :: .any :: .any :: .any :: .any :: .any :: .any :: .any :: .any :: .any :: .any :: .any :: .any :: .any :: .any :: .any :: []))
      (fun s => mS sid H0 s.2) (0, st) ⟨Nat.zero_le _, rfl, rfl, rfl⟩ (by rw [hinit]; (refine fgtX ?_; try exact True.intro)) ?_
    rintro ⟨k, now⟩ ⟨k1, k2, k3, k4⟩
    simp only at k1 k2 k3 k4 ⊢
    have hw : IntKind.i64.wrap ((k : Int) + 1) = ((k + 1 : Nat) : Int) := by rw [wrap_of (by omega) (by omega)]; omega
    cases hd : l.drop k with
    | nil =>
      have hk : l.length ≤ k := List.drop_eq_nil_iff.1 hd
      have hlt := drop_nil hd
      rw [hd, runStL_nil] at k3
      rw [← k3]
      simp only [outR]
      (have rr1 := dr42_5_X30g; have rr2 := dr42_7_X30g; refine wkO ?_; clear rr1 rr2; (repeat' first | exact True.intro | refine Lf.mk ?_ ?_); all_goals intro hP)
      ((try simp only [go_sem, Nat.reduceAdd, Nat.reduceSub, Nat.reduceMul, Nat.reduceLeDiff, Nat.reduceLT, Nat.reduceEqDiff, Int.reduceToNat, Int.reduceAdd, Int.reduceMul, Int.reduceSub, Int.reduceLT, Int.reduceLE, Int.reduceEq, Int.reduceNeg, Int.reduceBEq, Int.reduceBNe, ↓reduceIte, reduceCtorEq]); exact ⟨_, rfl, _, rfl, mS_fin0 hF.lt now 1 (by simp [AV.low])⟩)
    | cons s ss =>
      obtain ⟨hvk, hlt, hr, hm⟩ := drop_cons hd
      have hs := stSL_memM hv s hm
      have hfs := fineL_mem hfi hm
      rw [fine_eq] at hfs
      obtain ⟨na, nb, ft, fe⟩ := hfs
      rw [hd, runStL_cons] at k3
      rw [hd, stopL_cons] at k4
      have hl' : (l.map encS)[k]? = some (cS s) := by rw [List.getElem?_map, hvk]; exact congrArg some (encS_eq s)
      have cA := hF.val k2 (by omega) s.a (by omega)
      have gf := fun L => ((hF.to k2).app L).f.f
      have gs := fun L => ((hF.to k2).app L).s
      rw [runStS_eq] at k3
      rw [runStS_eq, stopS_eq] at k4
      cases hva : valE now i0 i1 i2 i3 s.a with
      | error x =>
        simp only [hva] at k3 k4
        simp only [hva, outV] at cA
        rw [← k3, ← k4]
        simp only [outR]
        (have rr1 := dr42_5_X30g; have rr2 := dr42_7_X30g; have ww1 := hl'; have ww2 := hlt; have ww3 := m0; have ww4 := mk; have ww5 := n0; have ww6 := nk; have ww7 := ml; have cc1 := fun z1 => cA z1; refine wkS ?_; clear rr1 rr2 ww1 ww2 ww3 ww4 ww5 ww6 ww7 cc1; (repeat' first | exact True.intro | refine Lf.mk ?_ ?_); all_goals intro hP)
        exact ⟨_, rfl, mS_finR hF.lt now _ 1 (by simp [AV.low])⟩
      | ok x =>
        simp only [hva] at k3 k4
        simp only [hva, outV] at cA
        rcases stS_ok hs with ⟨hk1, hv0, hv1, u, hu⟩ | ⟨hk2, hr1, hr2, ⟨u, hu⟩, ⟨u', hu'⟩, ht, he⟩
        · rw [if_pos hk1] at k3 k4
          rw [if_pos hk1] at k4
          have hvlt : s.var.toNat < vs.length := by omega
          obtain ⟨v, hvx⟩ : ∃ v, vs[s.var.toNat]? = some v := ⟨_, List.getElem?_eq_getElem hvlt⟩
          have hvx' : (vs.map encV)[s.var.toNat]? = some (cV v) := by rw [List.getElem?_map, hvx]; rfl
          rw [hvx] at k3 k4
          simp only at k3 k4
          have q1 : s.var < (vs.length : Int) := by omega
          by_cases hin : v.low ≤ x ∧ x ≤ v.high
          · rw [if_pos hin] at k3 k4
            simp only at k3 k4
            have p1 : ¬ x < v.low := by omega
            have p2 : ¬ v.high < x := by omega
            have q2 : s.var < (now.length : Int) := by omega
            have hns : (nR now)[s.var.toNat]? = some [.i (now.getD s.var.toNat 0)] := by
              have h2 : s.var.toNat < now.length := by omega
              unfold nR pvRows
              rw [List.getElem?_map, List.getElem?_map, List.getD_eq_getElem?_getD, List.getElem?_eq_getElem h2]; rfl
            have hput := fun Y L => mS_put hF.lt now Y L
            have ln := nR_len now
            have lset := nR_set now s.var.toNat x
            generalize now.getD s.var.toNat 0 = old at *
            repeat' (first | refine awp_seq ?_ | refine awp_block ?_ | refine awp_scope ?_ | ((first | refine awp_region_k fun Kn Kp hn hp => ?_ | show AWP _ _ (Code.region 5 _ true) _ _ _; refine awp_drawn_k (id := 5) [8, 9] [] [.win [0, 1], .win [0, 1], .win [0, 1], .win [0, 1], .win [0, 1], .win [0, 1], .win [0, 1], .win [0, 1], .eff 0, .eff 1] 2 rfl (by as_aux_lemma => kernel_rfl) fun Kn Kp hn hp => ?_ | show AWP _ _ (Code.region 7 _ true) _ _ _; refine awp_drawn_k (id := 7) [8] [] [.win [0], .win [0], .win [0], .win [0], .win [0], .win [0], .win [0], .win [0], .eff 0] 1 rfl (by as_aux_lemma => kernel_rfl) fun Kn Kp hn hp => ?_ | refine oge_intro (by assumption) ?_ | (show AWE _ _ _ _ _ _ _ _ _; first | refine awe_intro (cA _) ?_ | refine awe_intro (fo _ _) ?_) | (show AWSF _ _ _ _ _ _ _ _ _ _ _; first | refine awsf_intro (cA _) (fun hrun => ?_) | refine awsf_intro (fo _ _) (fun hrun => ?_)) | (show OGE _ _ _ _ _ _ _; first | refine oge_intro (cA _) ?_ | refine oge_intro (fo _ _) ?_) | (show AWSE _ _ _ _ _ _ _ _ _ _ _; first | refine awse_intro (cA _) (fun hrun => ?_) | refine awse_intro (fo _ _) (fun hrun => ?_)) | (show PGE _ _ _ _ _; first | refine pge_intro (cA _) (fun tm' => ?_) | refine pge_intro (fo _ _) (fun tm' => ?_))) <;> (simp only [go_sem, Nat.reduceAdd, Nat.reduceSub, Nat.reduceMul, Nat.reduceLeDiff, Nat.reduceLT, Nat.reduceEqDiff, Int.reduceToNat, Int.reduceAdd, Int.reduceMul, Int.reduceSub, Int.reduceLT, Int.reduceLE, Int.reduceEq, Int.reduceNeg, Int.reduceBEq, Int.reduceBNe, ↓reduceIte, reduceCtorEq, List.length_map, hl', hlt, hw, hk1, m0, mk, n0, nk, ml, gf, gs, hvx', hv0, q1, q2, p1, p2, hns, ln, lset, hput] <;> try simp (disch := omega) only [wrap_of])) | (refine hn _ _ ?_; clear hn hp Kn Kp) | (refine hp _ _ _ ?_; clear hn hp Kn Kp) | (refine awp_cond rfl (fun hb => ?_) (fun hb => ?_) <;> (try simp only [decide_eq_true_eq, decide_eq_false_iff_not, Bool.not_eq_true', Bool.not_eq_false', Bool.true_eq_false, Bool.false_eq_true, beq_iff_eq, bne_iff_ne, bne_eq_false_iff_eq, beq_eq_false_iff_ne, gt_iff_lt, ge_iff_le, Int.reduceEq, Int.reduceNe, Int.reduceLT, Int.reduceLE, ne_eq, not_true_eq_false, not_false_eq_true] at hb)) | ((first | refine awg_split (fun hb => ?_) (fun hb => ?_) | refine awsg_split (fun hb => ?_) (fun hb => ?_)) <;> have hb0 := hb <;> (try simp only [decide_eq_true_eq, decide_eq_false_iff_not, Bool.not_eq_true', Bool.not_eq_false', Bool.true_eq_false, Bool.false_eq_true, beq_iff_eq, bne_iff_ne, bne_eq_false_iff_eq, beq_eq_false_iff_ne, gt_iff_lt, ge_iff_le, Int.reduceEq, Int.reduceNe, Int.reduceLT, Int.reduceLE, ne_eq, not_true_eq_false, not_false_eq_true] at hb0) <;> (try simp only [beq_true, beq_false, Bool.not_eq_true', Bool.not_eq_false'] at hb) <;> (simp only [go_sem, Nat.reduceAdd, Nat.reduceSub, Nat.reduceMul, Nat.reduceLeDiff, Nat.reduceLT, Nat.reduceEqDiff, Int.reduceToNat, Int.reduceAdd, Int.reduceMul, Int.reduceSub, Int.reduceLT, Int.reduceLE, Int.reduceEq, Int.reduceNeg, Int.reduceBEq, Int.reduceBNe, ↓reduceIte, reduceCtorEq, List.length_map, hl', hlt, hw, hk1, m0, mk, n0, nk, ml, gf, gs, hvx', hv0, q1, q2, p1, p2, hns, ln, lset, hput, hb, hb0] <;> try simp (disch := omega) only [wrap_of])) | (refine And.intro ?_ ?_) | refine awp_skip ?_ | refine awp_ret ?_ | refine awp_exit ?_ | refine awp_label ?_ | refine awloop_step ?_ | (simp only [go_sem, Nat.reduceAdd, Nat.reduceSub, Nat.reduceMul, Nat.reduceLeDiff, Nat.reduceLT, Nat.reduceEqDiff, Int.reduceToNat, Int.reduceAdd, Int.reduceMul, Int.reduceSub, Int.reduceLT, Int.reduceLE, Int.reduceEq, Int.reduceNeg, Int.reduceBEq, Int.reduceBNe, ↓reduceIte, reduceCtorEq, List.length_map, hl', hlt, hw, hk1, m0, mk, n0, nk, ml, gf, gs, hvx', hv0, q1, q2, p1, p2, hns, ln, lset, hput]) | fail)
            refine ⟨(k + 1, now.set s.var.toNat x), by simp only; omega, ⟨by simp only; omega, by simp only [List.length_set]; exact k2, by simp only; rw [hr]; exact k3, by simp only; rw [hr]; exact k4⟩, ?_⟩
            refine mS_fall 1 ?_
            simp only [List.map_cons, List.map_nil, AV.low, hfl, if_true, Fgt, true_or, or_true, and_true, true_and]
          · rw [if_neg hin] at k3 k4
            simp only at k3 k4
            rw [← k3, ← k4]
            simp only [outR]
            have cP : ∀ H, ARun Tryz.prog 59 [.b true, .i 15] H (.pan (xF 15) H) := fun H => fail_pan 15 H
            by_cases p1 : x < v.low
            · (have rr1 := dr42_5_X30g; have rr2 := dr42_7_X30g; have ww1 := hl'; have ww2 := hlt; have ww3 := hw; have ww4 := hk1; have ww5 := m0; have ww6 := mk; have ww7 := n0; have ww8 := nk; have ww9 := ml; have ww10 := gf; have ww11 := gs; have ww12 := hvx'; have ww13 := hv0; have ww14 := q1; have ww15 := p1; have cc1 := fun z1 => cA z1; have cc2 := fun z1 => cP z1; refine wkS ?_; clear rr1 rr2 ww1 ww2 ww3 ww4 ww5 ww6 ww7 ww8 ww9 ww10 ww11 ww12 ww13 ww14 ww15 cc1 cc2; (repeat' first | exact True.intro | refine Lf.mk ?_ ?_); all_goals intro hP)
              exact ⟨_, rfl, mS_finR hF.lt now _ 1 (by simp [AV.low])⟩
            · have p2 : v.high < x := by omega
              (have rr1 := dr42_5_X30g; have rr2 := dr42_7_X30g; have ww1 := hl'; have ww2 := hlt; have ww3 := hw; have ww4 := hk1; have ww5 := m0; have ww6 := mk; have ww7 := n0; have ww8 := nk; have ww9 := ml; have ww10 := gf; have ww11 := gs; have ww12 := hvx'; have ww13 := hv0; have ww14 := q1; have ww15 := p1; have ww16 := p2; have cc1 := fun z1 => cA z1; have cc2 := fun z1 => cP z1; refine wkS ?_; clear rr1 rr2 ww1 ww2 ww3 ww4 ww5 ww6 ww7 ww8 ww9 ww10 ww11 ww12 ww13 ww14 ww15 ww16 cc1 cc2; (repeat' first | exact True.intro | refine Lf.mk ?_ ?_); all_goals intro hP)
              exact ⟨_, rfl, mS_finR hF.lt now _ 1 (by simp [AV.low])⟩
        · have hk1 : ¬ s.kind = 1 := by omega
          have hk1' : (s.kind == 1) = false := by simpa using hk1
          rw [if_neg hk1] at k3 k4
          rw [if_neg hk1] at k4
          have cB := hF.val k2 (by omega) s.b (by omega)
          cases hvb : valE now i0 i1 i2 i3 s.b with
          | error y =>
            simp only [hvb] at k3 k4
            simp only [hvb, outV] at cB
            rw [← k3, ← k4]
            simp only [outR]
            (have rr1 := dr42_5_X30g; have rr2 := dr42_7_X30g; have ww1 := hl'; have ww2 := hlt; have ww3 := hw; have ww4 := hk1'; have ww5 := m0; have ww6 := mk; have ww7 := n0; have ww8 := nk; have ww9 := ml; have cc1 := fun z1 => cA z1; have cc2 := fun z1 => cB z1; refine wkS ?_; clear rr1 rr2 ww1 ww2 ww3 ww4 ww5 ww6 ww7 ww8 ww9 cc1 cc2; (repeat' first | exact True.intro | refine Lf.mk ?_ ?_); all_goals intro hP)
            exact ⟨_, rfl, mS_finR hF.lt now _ 1 (by simp [AV.low])⟩
          | ok y =>
            simp only [hvb] at k3 k4
            simp only [hvb, outV] at cB
            have hst := totL_mem hm
            rw [tot_eq] at hst
            have cH := fun H => mholds_run x s.rel y ⟨hr1, hr2⟩ H
            have cT := hF.lift k2 (fun H hH => ih s.thn (by omega) ht ft (by omega) now H (by omega) hH)
            have cE' := hF.lift k2 (fun H hH => ih s.els (by omega) he fe (by omega) now H (by omega) hH)
            cases hh : holdsS x s.rel y with
            | true =>
              simp only [hh, if_true] at k3 k4
              rw [hh] at cH
              cases hrt : runStL vs i0 i1 i2 i3 s.thn now with
              | error z =>
                simp only [hrt, outRL] at k3 k4 cT
                rw [← k3, ← k4]
                simp only [outR]
                (have rr1 := dr42_5_X30g; have rr2 := dr42_7_X30g; have ww1 := hl'; have ww2 := hlt; have ww3 := hw; have ww4 := hk1'; have ww5 := m0; have ww6 := mk; have ww7 := n0; have ww8 := nk; have ww9 := ml; have cc1 := fun z1 => cA z1; have cc2 := fun z1 => cB z1; have cc3 := fun z1 => cH z1; have cc4 := fun z1 => cT z1; refine wkS ?_; clear rr1 rr2 ww1 ww2 ww3 ww4 ww5 ww6 ww7 ww8 ww9 cc1 cc2 cc3 cc4; (repeat' first | exact True.intro | refine Lf.mk ?_ ?_); all_goals intro hP)
                exact ⟨_, rfl, mS_finR hF.lt _ _ 1 (by simp [AV.low])⟩
              | ok st' =>
                have hl2 := runStL_len _ _ _ hrt
                simp only [hrt, outRL] at k3 k4 cT
                (have rr1 := dr42_5_X30g; have rr2 := dr42_7_X30g; have ww1 := hl'; have ww2 := hlt; have ww3 := hw; have ww4 := hk1'; have ww5 := m0; have ww6 := mk; have ww7 := n0; have ww8 := nk; have ww9 := ml; have cc1 := fun z1 => cA z1; have cc2 := fun z1 => cB z1; have cc3 := fun z1 => cH z1; have cc4 := fun z1 => cT z1; refine wkS ?_; clear rr1 rr2 ww1 ww2 ww3 ww4 ww5 ww6 ww7 ww8 ww9 cc1 cc2 cc3 cc4; (repeat' first | exact True.intro | refine Lf.mk ?_ ?_); all_goals intro hP)
                refine ⟨(k + 1, st'), by simp only; omega, ⟨by simp only; omega, by simp only; omega, by simp only; rw [hr]; exact k3, by simp only; rw [hr]; exact k4⟩, ?_⟩
                refine mS_fall 1 ?_
                simp only [List.map_cons, List.map_nil, AV.low, hfl, if_true, Fgt, true_or, or_true, and_true, true_and]
            | false =>
              simp only [hh, Bool.false_eq_true, if_false] at k3 k4
              rw [hh] at cH
              cases hrt : runStL vs i0 i1 i2 i3 s.els now with
              | error z =>
                simp only [hrt, outRL] at k3 k4 cE'
                rw [← k3, ← k4]
                simp only [outR]
                (have rr1 := dr42_5_X30g; have rr2 := dr42_7_X30g; have ww1 := hl'; have ww2 := hlt; have ww3 := hw; have ww4 := hk1'; have ww5 := m0; have ww6 := mk; have ww7 := n0; have ww8 := nk; have ww9 := ml; have cc1 := fun z1 => cA z1; have cc2 := fun z1 => cB z1; have cc3 := fun z1 => cH z1; have cc4 := fun z1 => cE' z1; refine wkS ?_; clear rr1 rr2 ww1 ww2 ww3 ww4 ww5 ww6 ww7 ww8 ww9 cc1 cc2 cc3 cc4; (repeat' first | exact True.intro | refine Lf.mk ?_ ?_); all_goals intro hP)
                exact ⟨_, rfl, mS_finR hF.lt _ _ 1 (by simp [AV.low])⟩
              | ok st' =>
                have hl2 := runStL_len _ _ _ hrt
                simp only [hrt, outRL] at k3 k4 cE'
                (have rr1 := dr42_5_X30g; have rr2 := dr42_7_X30g; have ww1 := hl'; have ww2 := hlt; have ww3 := hw; have ww4 := hk1'; have ww5 := m0; have ww6 := mk; have ww7 := n0; have ww8 := nk; have ww9 := ml; have cc1 := fun z1 => cA z1; have cc2 := fun z1 => cB z1; have cc3 := fun z1 => cH z1; have cc4 := fun z1 => cE' z1; refine wkS ?_; clear rr1 rr2 ww1 ww2 ww3 ww4 ww5 ww6 ww7 ww8 ww9 cc1 cc2 cc3 cc4; (repeat' first | exact True.intro | refine Lf.mk ?_ ?_); all_goals intro hP)
                refine ⟨(k + 1, st'), by simp only; omega, ⟨by simp only; omega, by simp only; omega, by simp only; rw [hr]; exact k3, by simp only; rw [hr]; exact k4⟩, ?_⟩
                refine mS_fall 1 ?_
                simp only [List.map_cons, List.map_nil, AV.low, hfl, if_true, Fgt, true_or, or_true, and_true, true_and]
theorem dr18_6_X30h : Drawn Tryz.prog 6 (regOps 6 ((Tryz.f18.body).getD .skip)) [] [] [.win [0], .win [0], .win [0], .win [0], .win [0], .win [0], .win [0], .win [0], .win [0]] 0 [] := ⟨rfl, by as_aux_lemma => kernel_rfl⟩
theorem dr43_5_X30h : Drawn Tryz.prog 5 (regOps 5 ((Tryz.f43.body).getD .skip)) [] [] [.win [0], .win [0], .win [0], .win [0], .win [0], .win [0], .win [0], .win [0], .win [0], .win [0], .win [0], .win [0], .win [0], .win [0], .win [0], .win [0], .win [0], .win [0], .win [0], .win [0], .win [0], .win [0], .win [0], .win [0], .win [0], .win [0], .win [0]] 0 [] := ⟨rfl, by as_aux_lemma => kernel_rfl⟩
theorem Ints_run (a b : List Int) (hl : a.length ≤ 2000000) (H0 : List AObj) :
    ARun Tryz.prog 18 [.rs 1 (rI a), .rs 1 (rI b)] H0 (.ret (.b (a == b)) H0) := by
  by_cases hlen : a.length = b.length
  · have hlb : ((a.length : Int) != (b.length : Int)) = false := by simp [hlen]
    have e0 : (a == b) = (a.drop 0 == b.drop 0) := rfl
    (refine ARun.intro Tryz.func18 rfl Tryz.call18 Tryz.ntmps18 Tryz.results18 ?_; simp only [List.length_cons, List.length_nil, List.length_map, Nat.reduceAdd, Nat.reduceSub, List.replicate_succ, List.replicate_zero, List.cons_append, List.nil_append])
    (have rr1 := dr18_6_X30h; have ww1 := hlb; refine wk ?_; clear rr1 ww1; (repeat' first | exact True.intro | refine Lf.mk ?_ ?_); all_goals intro hP)
    refine awp_loop_ind (σ := Nat) (fun s => a.length - s) (fun s => s ≤ a.length ∧ (a == b) = (a.drop s == b.drop s))
      (fun s => (.rs 1 (rI a) :: .rs 1 (rI b) :: .any :: .any :: .any :: .i s :: .any :: .any :: .any :: .any :: .any :: .any :: .any :: .any :: .any :: .any :: .any :: .any :: .any :: .any :: .any :: .any :: .any :: .any :: .any :: .any :: []))
      (fun s => H0) 0 ⟨Nat.zero_le _, by simp⟩ (by (refine fgtX ?_; try exact True.intro)) ?_
    rintro i ⟨h1, h4⟩
    cases hr : a.drop i with
    | nil =>
      have hlt := drop_nil hr
      have hrb : b.drop i = [] := by rw [List.drop_eq_nil_iff] at hr ⊢; omega
      rw [hr, hrb] at h4
      rw [h4]
      (have rr1 := dr18_6_X30h; have ww1 := hlt; refine wk ?_; clear rr1 ww1; (repeat' first | exact True.intro | refine Lf.mk ?_ ?_); all_goals intro hP)
      (refine resX ?_; try exact True.intro)
    | cons x rest =>
      obtain ⟨hx, hlt, hd, hm⟩ := drop_cons hr
      have hib : i < b.length := by omega
      have hltb : (i : Int) < b.length := by omega
      obtain ⟨y, hy⟩ := get_some (hs := b) (i := i) hib
      have hrb : b.drop i = y :: b.drop (i + 1) := by rw [List.drop_eq_getElem_cons hib]; congr 1; rw [List.getElem?_eq_getElem hib] at hy; exact Option.some.inj hy
      have hx' : (rI a)[i]? = some [.i x] := by rw [List.getElem?_map, hx]; rfl
      have hy' : (rI b)[i]? = some [.i y] := by rw [List.getElem?_map, hy]; rfl
      have hw : IntKind.i64.wrap ((i : Int) + 1) = ((i + 1 : Nat) : Int) := by rw [wrap_of (by omega) (by omega)]; omega
      rw [hr, hrb, List.cons_beq_cons] at h4
      by_cases hxy : x = y
      · subst hxy
        rw [beq_self_eq_true, Bool.true_and, ← hd] at h4
        (have rr1 := dr18_6_X30h; have ww1 := hlt; have ww2 := hltb; have ww3 := hx'; have ww4 := hy'; have ww5 := hx; have ww6 := hy; have ww7 := hw; refine wkS ?_; clear rr1 ww1 ww2 ww3 ww4 ww5 ww6 ww7; (repeat' first | exact True.intro | refine Lf.mk ?_ ?_); all_goals intro hP)
        refine ⟨i + 1, by omega, ⟨by omega, h4⟩, ?_⟩
        (refine fgtX ?_; try exact True.intro)
      · have hxb : (x != y) = true := by simpa using hxy
        have hxb' : (x == y) = false := by simpa using hxy
        rw [hxb', Bool.false_and] at h4
        rw [h4]
        (have rr1 := dr18_6_X30h; have ww1 := hlt; have ww2 := hltb; have ww3 := hx'; have ww4 := hy'; have ww5 := hx; have ww6 := hy; have ww7 := hw; have ww8 := hxb; refine wkS ?_; clear rr1 ww1 ww2 ww3 ww4 ww5 ww6 ww7 ww8; (repeat' first | exact True.intro | refine Lf.mk ?_ ?_); all_goals intro hP)
        (refine resX ?_; try exact True.intro)
  · have hlb : ((a.length : Int) != (b.length : Int)) = true := by simp; omega
    have e : (a == b) = false := by
      rw [beq_eq_false_iff_ne]; intro e; exact hlen (by rw [e])
    rw [e]
    (refine ARun.intro Tryz.func18 rfl Tryz.call18 Tryz.ntmps18 Tryz.results18 ?_; simp only [List.length_cons, List.length_nil, List.length_map, Nat.reduceAdd, Nat.reduceSub, List.replicate_succ, List.replicate_zero, List.cons_append, List.nil_append])
    (have rr1 := dr18_6_X30h; have ww1 := hlb; refine wk ?_; clear rr1 ww1; (repeat' first | exact True.intro | refine Lf.mk ?_ ?_); all_goals intro hP)
    (refine resX ?_; try exact True.intro)
abbrev agL (x : Cal) : AV := .agg [.i x.ev, .i x.i0, .i x.i1, .i x.i2, .i x.i3]
theorem RCall_run (x : Cal) (H0 : List AObj) :
    ARun Tryz.prog 43 [agL x] H0 (.ret (.b (callOk x)) H0) := by
  (refine ARun.intro Tryz.func43 rfl Tryz.call43 Tryz.ntmps43 Tryz.results43 ?_; simp only [List.length_cons, List.length_nil, List.length_map, Nat.reduceAdd, Nat.reduceSub, List.replicate_succ, List.replicate_zero, List.cons_append, List.nil_append])
  (have rr1 := dr43_5_X30h; refine wkO ?_; clear rr1; (repeat' first | exact True.intro | refine Lf.mk ?_ ?_); all_goals intro hP)
  refine awp_loop 5 ?_
  (have rr1 := dr43_5_X30h; refine wkO ?_; clear rr1; (repeat' first | exact True.intro | refine Lf.mk ?_ ?_); all_goals intro hP)
  all_goals ((try rw [show callOk x = false from decide_neg' (by omega)]); (try rw [show callOk x = true from decide_pos' (by omega)]); (refine resX ?_; try exact True.intro); try (rw [show callOk x = decide (x.ev < 5) from decide_eq_decide.2 ⟨fun h => by omega, fun h => by omega⟩]))
def vN (r : Except Int Int) : Int := match r with
  | .ok v => v
  | .error _ => 0
def eN (r : Except Int Int) : Int := match r with
  | .ok _ => 0
  | .error x => x
abbrev rStr (l : List ByteArray) : List (List PV) := l.map fun w => [PV.sc (.string w)]
abbrev aStr (s : ByteArray) : AV := .pv (.sc (.string s))
theorem In_run (l : List ByteArray) (s : ByteArray) (hl : l.length ≤ 2000000) (H0 : List AObj) :
    ARun Tryz.prog 73 [.rs 1 (rStr l), aStr s] H0 (.ret (.i (placeS l s 0)) H0) := by
  (refine ARun.intro Tryz.func73 rfl Tryz.call73 Tryz.ntmps73 Tryz.results73 ?_; simp only [List.length_cons, List.length_nil, List.length_map, Nat.reduceAdd, Nat.reduceSub, List.replicate_succ, List.replicate_zero, List.cons_append, List.nil_append])
  (refine wkO ?_; (repeat' first | exact True.intro | refine Lf.mk ?_ ?_); all_goals intro hP)
  refine awp_loop_ind (σ := Nat) (fun k => l.length - k) (fun k => k ≤ l.length ∧ placeS l s 0 = placeS (l.drop k) s k)
    (fun k => (.rs 1 (rStr l) :: aStr s :: .any :: .any :: .any :: .i k :: .any :: .any :: .any :: .any :: .any :: .any :: .any :: .any :: .any :: .any :: .any :: .any :: .any :: [])) (fun k => H0) 0 ⟨Nat.zero_le _, by simp⟩ (by (refine fgtX ?_; try exact True.intro)) ?_
  rintro k ⟨k1, k2⟩
  have hw : IntKind.i64.wrap ((k : Int) + 1) = ((k + 1 : Nat) : Int) := by rw [wrap_of (by omega) (by omega)]; omega
  cases hd : l.drop k with
  | nil =>
    have hk : l.length ≤ k := List.drop_eq_nil_iff.1 hd
    rw [hd] at k2
    (refine wkO ?_; (repeat' first | exact True.intro | refine Lf.mk ?_ ?_); all_goals intro hP)
    (refine resX ?_; try exact True.intro)
    rw [k2]; rfl
  | cons w r =>
    have hk : k < l.length := by have := congrArg List.length hd; simp at this; omega
    rw [hd] at k2
    have hwk : l[k]? = some w := by
      have := List.getElem?_drop (xs := l) (i := k) (j := 0)
      rw [hd] at this; simpa using this.symm
    have hr : l.drop (k + 1) = r := by rw [← List.drop_drop, hd]; rfl
    have hl' : (rStr l)[k]? = some [PV.sc (.string w)] := by rw [List.getElem?_map, hwk]; rfl
    cases he : (w.toList == s.toList) with
    | true =>
      (have ww1 := hl'; have ww2 := hw; have ww3 := he; refine wkO ?_; clear ww1 ww2 ww3; (repeat' first | exact True.intro | refine Lf.mk ?_ ?_); all_goals intro hP)
      (refine resX ?_; try exact True.intro)
      rw [k2, placeS, if_pos (by exact he)]
    | false =>
      (have ww1 := hl'; have ww2 := hw; have ww3 := he; refine wkO ?_; clear ww1 ww2 ww3; (repeat' first | exact True.intro | refine Lf.mk ?_ ?_); all_goals intro hP)
      refine ⟨k + 1, by omega, ⟨by omega, ?_⟩, by (refine fgtX ?_; try exact True.intro)⟩
      rw [k2, hr, placeS, if_neg (by unfold eqB; rw [he]; simp)]
      rfl
theorem Units_run (H0 : List AObj) : ARun Tryz.prog 74 [] H0 (.ret (.rs 1 (rStr wUnits)) H0) := by
  (refine ARun.intro Tryz.func74 rfl Tryz.call74 Tryz.ntmps74 Tryz.results74 ?_; simp only [List.length_cons, List.length_nil, List.length_map, Nat.reduceAdd, Nat.reduceSub, List.replicate_succ, List.replicate_zero, List.cons_append, List.nil_append])
  (refine wk ?_; (repeat' first | exact True.intro | refine Lf.mk ?_ ?_); all_goals intro hP)
  (refine resC ?_; (repeat' (first | exact True.intro | refine Lf.mk ?_ ?_)))
  simp only [Nat.le_refl, if_true]
  exact Cv.refl _
theorem Events_run (H0 : List AObj) : ARun Tryz.prog 75 [] H0 (.ret (.rs 1 (rStr wEvents)) H0) := by
  (refine ARun.intro Tryz.func75 rfl Tryz.call75 Tryz.ntmps75 Tryz.results75 ?_; simp only [List.length_cons, List.length_nil, List.length_map, Nat.reduceAdd, Nat.reduceSub, List.replicate_succ, List.replicate_zero, List.cons_append, List.nil_append])
  (refine wk ?_; (repeat' first | exact True.intro | refine Lf.mk ?_ ?_); all_goals intro hP)
  (refine resC ?_; (repeat' (first | exact True.intro | refine Lf.mk ?_ ?_)))
  simp only [Nat.le_refl, if_true]
  exact Cv.refl _
theorem Policies_run (H0 : List AObj) : ARun Tryz.prog 76 [] H0 (.ret (.rs 1 (rStr wPolicies)) H0) := by
  (refine ARun.intro Tryz.func76 rfl Tryz.call76 Tryz.ntmps76 Tryz.results76 ?_; simp only [List.length_cons, List.length_nil, List.length_map, Nat.reduceAdd, Nat.reduceSub, List.replicate_succ, List.replicate_zero, List.cons_append, List.nil_append])
  (refine wk ?_; (repeat' first | exact True.intro | refine Lf.mk ?_ ?_); all_goals intro hP)
  (refine resC ?_; (repeat' (first | exact True.intro | refine Lf.mk ?_ ?_)))
  simp only [Nat.le_refl, if_true]
  exact Cv.refl _
theorem Inputs_run (H0 : List AObj) : ARun Tryz.prog 77 [] H0 (.ret (.rs 1 (rStr wInputs)) H0) := by
  (refine ARun.intro Tryz.func77 rfl Tryz.call77 Tryz.ntmps77 Tryz.results77 ?_; simp only [List.length_cons, List.length_nil, List.length_map, Nat.reduceAdd, Nat.reduceSub, List.replicate_succ, List.replicate_zero, List.cons_append, List.nil_append])
  (refine wk ?_; (repeat' first | exact True.intro | refine Lf.mk ?_ ?_); all_goals intro hP)
  (refine resC ?_; (repeat' (first | exact True.intro | refine Lf.mk ?_ ?_)))
  simp only [Nat.le_refl, if_true]
  exact Cv.refl _
theorem Others_run (H0 : List AObj) : ARun Tryz.prog 78 [] H0 (.ret (.rs 1 (rStr wOthers)) H0) := by
  (refine ARun.intro Tryz.func78 rfl Tryz.call78 Tryz.ntmps78 Tryz.results78 ?_; simp only [List.length_cons, List.length_nil, List.length_map, Nat.reduceAdd, Nat.reduceSub, List.replicate_succ, List.replicate_zero, List.cons_append, List.nil_append])
  (refine wk ?_; (repeat' first | exact True.intro | refine Lf.mk ?_ ?_); all_goals intro hP)
  (refine resC ?_; (repeat' (first | exact True.intro | refine Lf.mk ?_ ?_)))
  simp only [Nat.le_refl, if_true]
  exact Cv.refl _
theorem bytes_nn {s : ByteArray} {c : Int} (h : c ∈ bytesZ s) : 0 ≤ c ∧ c < 256 := by
  unfold bytesZ at h
  obtain ⟨b, _, rfl⟩ := List.mem_map.1 h
  have := b.toNat_lt
  omega
theorem key_nn {l : List ByteArray} {s : ByteArray} : decide (0 ≤ placeS l s 0) = inB l s := by
  have := placeS_nn (l := l) (s := s) (i := 0) (Int.le_refl _)
  cases h : inB l s with
  | true => simpa using this.2 h
  | false => simp only [decide_eq_false_iff_not]; intro h0; rw [this.1 h0] at h; cases h
theorem charS_iff (k : Nat) (c : Int) : charS k c = true ↔ (97 ≤ c ∧ c ≤ 122) ∨ (k ≠ 0 ∧ ((48 ≤ c ∧ c ≤ 57) ∨ c = 95)) := by unfold charS; simp
theorem Name_run (s : ByteArray) (hs : s.size ≤ 2000000) (H0 : List AObj) :
    ARun Tryz.prog 51 [aStr s] H0 (.ret (.b (nameB s)) H0) := by
  have u1 := fun H0 => Units_run H0
  have u2 := fun H0 => Events_run H0
  have u3 := fun H0 => Policies_run H0
  have u4 := fun H0 => Inputs_run H0
  have u5 := fun H0 => Others_run H0
  have i1 := fun H0 => In_run wUnits s (by decide) H0
  have i2 := fun H0 => In_run wEvents s (by decide) H0
  have i3 := fun H0 => In_run wPolicies s (by decide) H0
  have i4 := fun H0 => In_run wInputs s (by decide) H0
  have i5 := fun H0 => In_run wOthers s (by decide) H0
  (refine ARun.intro Tryz.func51 rfl Tryz.call51 Tryz.ntmps51 Tryz.results51 ?_; simp only [List.length_cons, List.length_nil, List.length_map, Nat.reduceAdd, Nat.reduceSub, List.replicate_succ, List.replicate_zero, List.cons_append, List.nil_append])
  (refine wkO ?_; (repeat' first | exact True.intro | refine Lf.mk ?_ ?_); all_goals intro hP)
  refine awp_loop_ind (σ := Nat) (fun k => s.size - k) (fun k => k ≤ s.size ∧ charsS (bytesZ s) 0 = charsS ((bytesZ s).drop k) k)
    (fun k => (aStr s :: .any :: .any :: .i k :: .any :: .any :: .any :: .any :: .any :: .any :: .any :: .any :: .any :: .any :: .any :: .any :: .any :: .any :: .any :: .any :: .any :: .any :: .any :: .any :: .any :: .any :: .any :: .any :: .any :: .any :: .any :: .any :: .any :: .any :: .any :: .any :: .any :: .any :: .any :: .any :: .any :: .any :: .any :: .any :: .any :: .any :: .any :: .any :: .any :: .any :: .any :: .any :: .any :: .any :: .any :: .any :: .any :: .any :: .any :: .any :: .any :: .any :: .any :: .any :: .any :: .any :: .any :: .any :: .any :: .any :: .any :: .any :: .any :: .any :: .any :: .any :: .any :: [])) (fun k => H0) 0 ⟨Nat.zero_le _, by simp⟩ (by (refine fgtX ?_; try exact True.intro)) ?_
  rintro k ⟨k1, k2⟩
  have hw : IntKind.i64.wrap ((k : Int) + 1) = ((k + 1 : Nat) : Int) := by rw [wrap_of (by omega) (by omega)]; omega
  by_cases hk : k = s.size
  · subst hk
    rw [List.drop_eq_nil_of_le (by rw [bytesZ_len]; exact Nat.le_refl _)] at k2
    have k3 : charsS (bytesZ s) 0 = true := by rw [k2]; rfl
    clear k2
    have e1 := key_nn (l := wUnits) (s := s)
    have e2 := key_nn (l := wEvents) (s := s)
    have e3 := key_nn (l := wPolicies) (s := s)
    have e4 := key_nn (l := wInputs) (s := s)
    have e5 := key_nn (l := wOthers) (s := s)
    generalize hp1 : placeS wUnits s 0 = p1 at *
    generalize hp2 : placeS wEvents s 0 = p2 at *
    generalize hp3 : placeS wPolicies s 0 = p3 at *
    generalize hp4 : placeS wInputs s 0 = p4 at *
    generalize hp5 : placeS wOthers s 0 = p5 at *
    have hkey : keyB s = (decide (0 ≤ p1) || (decide (0 ≤ p2) || (decide (0 ≤ p3) || (decide (0 ≤ p4) || decide (0 ≤ p5))))) := by
      unfold keyB; rw [e1, e2, e3, e4, e5]
    (have cc1 := fun z1 => u1 z1; have cc2 := fun z1 => u2 z1; have cc3 := fun z1 => u3 z1; have cc4 := fun z1 => u4 z1; have cc5 := fun z1 => u5 z1; have cc6 := fun z1 => i1 z1; have cc7 := fun z1 => i2 z1; have cc8 := fun z1 => i3 z1; have cc9 := fun z1 => i4 z1; have cc10 := fun z1 => i5 z1; refine wkO ?_; clear cc1 cc2 cc3 cc4 cc5 cc6 cc7 cc8 cc9 cc10; (repeat' first | exact True.intro | refine Lf.mk ?_ ?_); all_goals intro hP)
    all_goals clear u1 u2 u3 u4 u5 i1 i2 i3 i4 i5 e1 e2 e3 e4 e5
    all_goals ((refine resX ?_; try exact True.intro))
    all_goals (unfold nameB; rw [k3, hkey]; refine congrArg (fun b => AV.pv (PV.sc (Value.bool b))) ?_; rw [Bool.eq_iff_iff]; simp <;> omega)
  · have hlt : k < s.size := by omega
    have hlz : k < (bytesZ s).length := by rw [bytesZ_len]; exact hlt
    have hd : (bytesZ s).drop k = (bytesZ s).getD k 0 :: (bytesZ s).drop (k + 1) := by
      rw [List.drop_eq_getElem_cons hlz, List.getD_eq_getElem?_getD, List.getElem?_eq_getElem hlz]; rfl
    have hb := bytes_nn (getD_mem hlz)
    rw [hd] at k2
    simp only [charsS] at k2
    (have ww1 := hw; refine wkO ?_; clear ww1; (repeat' first | exact True.intro | refine Lf.mk ?_ ?_); all_goals intro hP)
    all_goals first
      | (refine ⟨k + 1, by omega, ⟨by omega, ?_⟩, by (refine fgtX ?_; try exact True.intro)⟩; rw [k2, show charS k ((bytesZ s).getD k 0) = true from (charS_iff _ _).2 (by omega), Bool.true_and]; done)
      | ((refine resX ?_; try exact True.intro); unfold nameB; rw [k2, show charS k ((bytesZ s).getD k 0) = false from Bool.eq_false_iff.2 (fun h => by have := (charS_iff _ _).1 h; omega), Bool.false_and, Bool.false_and]; done)
theorem RVar_run (v : Vr) (hs : v.name.size ≤ 2000000) (H0 : List AObj) : ARun Tryz.prog 52 [.ag (encV v)] H0 (.ret (.b (varB v)) H0) := by
  have h1 := fun H0 => Name_run v.name hs H0
  obtain ⟨nm, u, lo, hi, ini⟩ := v
  simp only at h1 hs
  simp only [encV]
  cases hn : nameB nm with
  | true =>
    simp only [hn] at h1
    (refine ARun.intro Tryz.func52 rfl Tryz.call52 Tryz.ntmps52 Tryz.results52 ?_; simp only [List.length_cons, List.length_nil, List.length_map, Nat.reduceAdd, Nat.reduceSub, List.replicate_succ, List.replicate_zero, List.cons_append, List.nil_append])
    (have cc1 := fun z1 => h1 z1; refine wkO ?_; clear cc1; (repeat' first | exact True.intro | refine Lf.mk ?_ ?_); all_goals intro hP)
    all_goals clear h1
    all_goals ((refine resX ?_; try exact True.intro))
    all_goals (unfold varB; simp only [hn, Bool.true_and]; refine congrArg (fun b => AV.pv (PV.sc (Value.bool b))) ?_; rw [Bool.eq_iff_iff]; simp <;> omega)
  | false =>
    simp only [hn] at h1
    (refine ARun.intro Tryz.func52 rfl Tryz.call52 Tryz.ntmps52 Tryz.results52 ?_; simp only [List.length_cons, List.length_nil, List.length_map, Nat.reduceAdd, Nat.reduceSub, List.replicate_succ, List.replicate_zero, List.cons_append, List.nil_append])
    (have cc1 := fun z1 => h1 z1; refine wkO ?_; clear cc1; (repeat' first | exact True.intro | refine Lf.mk ?_ ?_); all_goals intro hP)
    all_goals clear h1
    all_goals ((refine resX ?_; try exact True.intro))
    all_goals (unfold varB; simp [hn])
theorem RFind_run (l : List Vr) (s : ByteArray) (hl : l.length ≤ 2000000) (H0 : List AObj) :
    ARun Tryz.prog 53 [.rs 5 (l.map encV), aStr s] H0 (.ret (.i (findV l s 0)) H0) := by
  (refine ARun.intro Tryz.func53 rfl Tryz.call53 Tryz.ntmps53 Tryz.results53 ?_; simp only [List.length_cons, List.length_nil, List.length_map, Nat.reduceAdd, Nat.reduceSub, List.replicate_succ, List.replicate_zero, List.cons_append, List.nil_append])
  (refine wkO ?_; (repeat' first | exact True.intro | refine Lf.mk ?_ ?_); all_goals intro hP)
  refine awp_loop_ind (σ := Nat) (fun k => l.length - k) (fun k => k ≤ l.length ∧ findV l s 0 = findV (l.drop k) s k)
    (fun k => (.rs 5 (l.map encV) :: aStr s :: .any :: .any :: .any :: .i k :: .any :: .any :: .any :: .any :: .any :: .any :: .any :: .any :: .any :: .any :: .any :: .any :: .any :: .any :: [])) (fun k => H0) 0 ⟨Nat.zero_le _, by simp⟩ (by (refine fgtX ?_; try exact True.intro)) ?_
  rintro k ⟨k1, k2⟩
  have hw : IntKind.i64.wrap ((k : Int) + 1) = ((k + 1 : Nat) : Int) := by rw [wrap_of (by omega) (by omega)]; omega
  cases hd : l.drop k with
  | nil =>
    have hk : l.length ≤ k := List.drop_eq_nil_iff.1 hd
    rw [hd] at k2
    (refine wkO ?_; (repeat' first | exact True.intro | refine Lf.mk ?_ ?_); all_goals intro hP)
    (refine resX ?_; try exact True.intro)
    rw [k2]; rfl
  | cons v r =>
    have hk : k < l.length := by have := congrArg List.length hd; simp at this; omega
    rw [hd] at k2
    obtain ⟨hvk, _, hr, _⟩ := drop_cons hd
    have hl' : (l.map encV)[k]? = some (cV v) := by rw [List.getElem?_map, hvk]; rfl
    cases he : (v.name.toList == s.toList) with
    | true =>
      (have ww1 := hl'; have ww2 := hw; have ww3 := he; refine wkO ?_; clear ww1 ww2 ww3; (repeat' first | exact True.intro | refine Lf.mk ?_ ?_); all_goals intro hP)
      (refine resX ?_; try exact True.intro)
      rw [k2, findV, if_pos (by exact he)]
    | false =>
      (have ww1 := hl'; have ww2 := hw; have ww3 := he; refine wkO ?_; clear ww1 ww2 ww3; (repeat' first | exact True.intro | refine Lf.mk ?_ ?_); all_goals intro hP)
      refine ⟨k + 1, by omega, ⟨by omega, ?_⟩, by (refine fgtX ?_; try exact True.intro)⟩
      rw [k2, hr, findV, if_neg (by unfold eqB; rw [he]; simp)]
      rfl
theorem RUses_run (l : List Vr) (k u : Int) (hl : l.length ≤ 2000000) (H0 : List AObj) :
    ARun Tryz.prog 55 [.rs 5 (l.map encV), .i k, .i u] H0 (.ret (.b (usesB l k u)) H0) := by
  by_cases hk : 0 ≤ k ∧ k < l.length
  · have hlt : k.toNat < l.length := by omega
    have hv := getEV hlt
    have hl' : (l.map encV)[k.toNat]? = some (cV (l.getD k.toNat dV)) := by rw [List.getElem?_map, hv]; rfl
    (refine ARun.intro Tryz.func55 rfl Tryz.call55 Tryz.ntmps55 Tryz.results55 ?_; simp only [List.length_cons, List.length_nil, List.length_map, Nat.reduceAdd, Nat.reduceSub, List.replicate_succ, List.replicate_zero, List.cons_append, List.nil_append])
    (have ww1 := hl'; refine wkO ?_; clear ww1; (repeat' first | exact True.intro | refine Lf.mk ?_ ?_); all_goals intro hP)
    all_goals ((refine resX ?_; try exact True.intro))
    all_goals (unfold usesB; rw [hv]; simp [hk])
  · (refine ARun.intro Tryz.func55 rfl Tryz.call55 Tryz.ntmps55 Tryz.results55 ?_; simp only [List.length_cons, List.length_nil, List.length_map, Nat.reduceAdd, Nat.reduceSub, List.replicate_succ, List.replicate_zero, List.cons_append, List.nil_append])
    (refine wkO ?_; (repeat' first | exact True.intro | refine Lf.mk ?_ ?_); all_goals intro hP)
    all_goals ((refine resX ?_; try exact True.intro))
    all_goals (unfold usesB; rw [decide_eq_false hk, Bool.false_and])
theorem eqB_sym (a b : ByteArray) : (a.toList == b.toList) = (b.toList == a.toList) := eqB_comm a b
theorem SIndex_run (l : List ByteArray) (s : ByteArray) (hl : l.length ≤ 2000000) (H0 : List AObj) :
    ARun Tryz.prog 125 [.rs 1 (rStr l), aStr s] H0 (.ret (.i (placeS l s 0)) H0) := by
  (refine ARun.intro Tryz.func125 rfl Tryz.call125 Tryz.ntmps125 Tryz.results125 ?_; simp only [List.length_cons, List.length_nil, List.length_map, Nat.reduceAdd, Nat.reduceSub, List.replicate_succ, List.replicate_zero, List.cons_append, List.nil_append])
  (refine wkO ?_; (repeat' first | exact True.intro | refine Lf.mk ?_ ?_); all_goals intro hP)
  refine awp_loop_ind (σ := Nat) (fun k => l.length - k) (fun k => k ≤ l.length ∧ placeS l s 0 = placeS (l.drop k) s k)
    (fun k => (.rs 1 (rStr l) :: aStr s :: .any :: .any :: .any :: .any :: .any :: .i l.length :: .i k :: .any :: .any :: .any :: .any :: .any :: .any :: .any :: .any :: .any :: .any :: [])) (fun k => H0) 0 ⟨Nat.zero_le _, by simp⟩ (by (refine fgtX ?_; try exact True.intro)) ?_
  rintro k ⟨k1, k2⟩
  have hw : IntKind.i64.wrap ((k : Int) + 1) = ((k + 1 : Nat) : Int) := by rw [wrap_of (by omega) (by omega)]; omega
  cases hd : l.drop k with
  | nil =>
    have hk : l.length ≤ k := List.drop_eq_nil_iff.1 hd
    rw [hd] at k2
    (refine wkO ?_; (repeat' first | exact True.intro | refine Lf.mk ?_ ?_); all_goals intro hP)
    (refine resX ?_; try exact True.intro)
    rw [k2]; rfl
  | cons w r =>
    have hk : k < l.length := by have := congrArg List.length hd; simp at this; omega
    rw [hd] at k2
    have hwk : l[k]? = some w := by
      have := List.getElem?_drop (xs := l) (i := k) (j := 0)
      rw [hd] at this; simpa using this.symm
    have hr : l.drop (k + 1) = r := by rw [← List.drop_drop, hd]; rfl
    have hl' : (rStr l)[k]? = some [PV.sc (.string w)] := by rw [List.getElem?_map, hwk]; rfl
    cases he : (s.toList == w.toList) with
    | true =>
      (have ww1 := hl'; have ww2 := hw; have ww3 := he; refine wkO ?_; clear ww1 ww2 ww3; (repeat' first | exact True.intro | refine Lf.mk ?_ ?_); all_goals intro hP)
      (refine resX ?_; try exact True.intro)
      rw [k2, placeS, if_pos (by unfold eqB; rw [eqB_sym]; exact he)]
    | false =>
      (have ww1 := hl'; have ww2 := hw; have ww3 := he; refine wkO ?_; clear ww1 ww2 ww3; (repeat' first | exact True.intro | refine Lf.mk ?_ ?_); all_goals intro hP)
      refine ⟨k + 1, by omega, ⟨by omega, ?_⟩, by (refine fgtX ?_; try exact True.intro)⟩
      rw [k2, hr, placeS, if_neg (by unfold eqB; rw [eqB_sym, he]; simp)]
      rfl
theorem place_lt {l : List ByteArray} {s : ByteArray} : ∀ {i : Int}, 0 ≤ i → -1 ≤ placeS l s i ∧ placeS l s i ≤ i + l.length := by
  induction l with
  | nil => intro i hi; simp [placeS]; omega
  | cons w l ih =>
    intro i hi
    unfold placeS
    have := ih (i := i + 1) (by omega)
    split
    · simp only [List.length_cons]; omega
    · simp only [List.length_cons]; omega
theorem unitOf_run (s : ByteArray) (H0 : List AObj) : ARun Tryz.prog 117 [aStr s] H0 (.ret (.tup [.i (placeS wUnits s 0), .b (inB wUnits s)]) H0) := by
  have h := SIndex_run wUnits s (by decide) []
  (refine ARun.intro Tryz.func117 rfl Tryz.call117 Tryz.ntmps117 Tryz.results117 ?_; simp only [List.length_cons, List.length_nil, List.length_map, Nat.reduceAdd, Nat.reduceSub, List.replicate_succ, List.replicate_zero, List.cons_append, List.nil_append])
  (have dd1 := h; refine wkO ?_; clear dd1; (repeat' first | exact True.intro | refine Lf.mk ?_ ?_); all_goals intro hP)
  (refine resX ?_; try exact True.intro)
  rw [key_nn]
theorem eventOf_run (s : ByteArray) (H0 : List AObj) : ARun Tryz.prog 118 [aStr s] H0 (.ret (.tup [.i (placeS wEvents s 0), .b (inB wEvents s)]) H0) := by
  have h := SIndex_run wEvents s (by decide) []
  (refine ARun.intro Tryz.func118 rfl Tryz.call118 Tryz.ntmps118 Tryz.results118 ?_; simp only [List.length_cons, List.length_nil, List.length_map, Nat.reduceAdd, Nat.reduceSub, List.replicate_succ, List.replicate_zero, List.cons_append, List.nil_append])
  (have dd1 := h; refine wkO ?_; clear dd1; (repeat' first | exact True.intro | refine Lf.mk ?_ ?_); all_goals intro hP)
  (refine resX ?_; try exact True.intro)
  rw [key_nn]
theorem policyOf_run (s : ByteArray) (H0 : List AObj) : ARun Tryz.prog 119 [aStr s] H0 (.ret (.tup [.i (placeS wPolicies s 0 + 1), .b (inB wPolicies s)]) H0) := by
  have h := SIndex_run wPolicies s (by decide) []
  have hp := place_lt (l := wPolicies) (s := s) (i := 0) (Int.le_refl _)
  have hlen : wPolicies.length = 6 := rfl
  rw [hlen] at hp
  (refine ARun.intro Tryz.func119 rfl Tryz.call119 Tryz.ntmps119 Tryz.results119 ?_; simp only [List.length_cons, List.length_nil, List.length_map, Nat.reduceAdd, Nat.reduceSub, List.replicate_succ, List.replicate_zero, List.cons_append, List.nil_append])
  (have dd1 := h; refine wkO ?_; clear dd1; (repeat' first | exact True.intro | refine Lf.mk ?_ ?_); all_goals intro hP)
  (refine resX ?_; try exact True.intro)
  rw [key_nn]
theorem isInput_run (s : ByteArray) (H0 : List AObj) : ARun Tryz.prog 120 [aStr s] H0 (.ret (.b (inB wInputs s)) H0) := by
  have e : inB wInputs s = ((s.toList == (⟨#[97, 99, 107, 101, 100]⟩ : ByteArray).toList) || ((s.toList == (⟨#[114, 116, 116]⟩ : ByteArray).toList) || ((s.toList == (⟨#[115, 105, 122, 101]⟩ : ByteArray).toList) || (s.toList == (⟨#[116, 111, 116, 97, 108]⟩ : ByteArray).toList)))) := by
    unfold inB wInputs
    simp only [List.any_cons, List.any_nil, Bool.or_false, eqB, eqB_sym _ s]
  (refine ARun.intro Tryz.func120 rfl Tryz.call120 Tryz.ntmps120 Tryz.results120 ?_; simp only [List.length_cons, List.length_nil, List.length_map, Nat.reduceAdd, Nat.reduceSub, List.replicate_succ, List.replicate_zero, List.cons_append, List.nil_append])
  (refine wk ?_; (repeat' first | exact True.intro | refine Lf.mk ?_ ?_); all_goals intro hP)
  all_goals ((refine resX ?_; try exact True.intro))
  all_goals (rw [e]; refine congrArg (fun b => AV.pv (PV.sc (Value.bool b))) ?_; rw [Bool.eq_iff_iff]; simp only [Bool.or_eq_true, beq_iff_eq, Bool.true_eq_false, iff_true, Bool.false_eq_true, iff_false]; clear e; simp_all)
theorem isKey_run (s : ByteArray) (H0 : List AObj) : ARun Tryz.prog 111 [aStr s] H0 (.ret (.b (keyB s)) H0) := by
  have h1 := fun H0 => unitOf_run s H0
  have h2 := fun H0 => eventOf_run s H0
  have h3 := fun H0 => policyOf_run s H0
  have h4 := fun H0 => isInput_run s H0
  have e : inB wOthers s = ((s.toList == (⟨#[108, 105, 110, 107]⟩ : ByteArray).toList) || ((s.toList == (⟨#[112, 97, 116, 104]⟩ : ByteArray).toList) || ((s.toList == (⟨#[102, 108, 111, 119]⟩ : ByteArray).toList) || ((s.toList == (⟨#[112, 114, 111, 103, 114, 97, 109]⟩ : ByteArray).toList) || ((s.toList == (⟨#[100, 101, 108, 97, 121]⟩ : ByteArray).toList) || ((s.toList == (⟨#[114, 111, 111, 109]⟩ : ByteArray).toList) || ((s.toList == (⟨#[98, 97, 99, 107]⟩ : ByteArray).toList) || ((s.toList == (⟨#[112, 97, 116, 104, 115]⟩ : ByteArray).toList) || ((s.toList == (⟨#[119, 105, 110, 100, 111, 119]⟩ : ByteArray).toList) || ((s.toList == (⟨#[115, 116, 97, 114, 116]⟩ : ByteArray).toList) || ((s.toList == (⟨#[112, 97, 99, 101]⟩ : ByteArray).toList) || ((s.toList == (⟨#[118, 97, 114]⟩ : ByteArray).toList) || ((s.toList == (⟨#[111, 110]⟩ : ByteArray).toList) || ((s.toList == (⟨#[105, 102]⟩ : ByteArray).toList) || ((s.toList == (⟨#[101, 108, 115, 101]⟩ : ByteArray).toList) || ((s.toList == (⟨#[109, 105, 110]⟩ : ByteArray).toList) || ((s.toList == (⟨#[109, 97, 120]⟩ : ByteArray).toList) || ((s.toList == (⟨#[117, 112]⟩ : ByteArray).toList))))))))))))))))))) := by
    simp only [inB, wOthers, List.any_cons, List.any_nil, Bool.or_false, eqB, eqB_sym _ s]
  cases q0 : (s.toList == (⟨#[108, 105, 110, 107]⟩ : ByteArray).toList) with
  | true =>
    have hq := q0
    have hk : keyB s = true := by unfold keyB; rw [e, q0]; simp
    rw [hk]
    clear e hk q0
    (refine ARun.intro Tryz.func111 rfl Tryz.call111 Tryz.ntmps111 Tryz.results111 ?_; simp only [List.length_cons, List.length_nil, List.length_map, Nat.reduceAdd, Nat.reduceSub, List.replicate_succ, List.replicate_zero, List.cons_append, List.nil_append])
    (have ww1 := hq; refine wk ?_; clear ww1; (repeat' first | exact True.intro | refine Lf.mk ?_ ?_); all_goals intro hP)
    (refine resX ?_; try exact True.intro)
  | false =>
  cases q1 : (s.toList == (⟨#[112, 97, 116, 104]⟩ : ByteArray).toList) with
  | true =>
    have hq := And.intro q0 q1
    have hk : keyB s = true := by unfold keyB; rw [e, q1]; simp
    rw [hk]
    clear e hk q0 q1
    (refine ARun.intro Tryz.func111 rfl Tryz.call111 Tryz.ntmps111 Tryz.results111 ?_; simp only [List.length_cons, List.length_nil, List.length_map, Nat.reduceAdd, Nat.reduceSub, List.replicate_succ, List.replicate_zero, List.cons_append, List.nil_append])
    (have ww1 := hq; refine wk ?_; clear ww1; (repeat' first | exact True.intro | refine Lf.mk ?_ ?_); all_goals intro hP)
    (refine resX ?_; try exact True.intro)
  | false =>
  cases q2 : (s.toList == (⟨#[102, 108, 111, 119]⟩ : ByteArray).toList) with
  | true =>
    have hq := And.intro q0 (And.intro q1 q2)
    have hk : keyB s = true := by unfold keyB; rw [e, q2]; simp
    rw [hk]
    clear e hk q0 q1 q2
    (refine ARun.intro Tryz.func111 rfl Tryz.call111 Tryz.ntmps111 Tryz.results111 ?_; simp only [List.length_cons, List.length_nil, List.length_map, Nat.reduceAdd, Nat.reduceSub, List.replicate_succ, List.replicate_zero, List.cons_append, List.nil_append])
    (have ww1 := hq; refine wk ?_; clear ww1; (repeat' first | exact True.intro | refine Lf.mk ?_ ?_); all_goals intro hP)
    (refine resX ?_; try exact True.intro)
  | false =>
  cases q3 : (s.toList == (⟨#[112, 114, 111, 103, 114, 97, 109]⟩ : ByteArray).toList) with
  | true =>
    have hq := And.intro q0 (And.intro q1 (And.intro q2 q3))
    have hk : keyB s = true := by unfold keyB; rw [e, q3]; simp
    rw [hk]
    clear e hk q0 q1 q2 q3
    (refine ARun.intro Tryz.func111 rfl Tryz.call111 Tryz.ntmps111 Tryz.results111 ?_; simp only [List.length_cons, List.length_nil, List.length_map, Nat.reduceAdd, Nat.reduceSub, List.replicate_succ, List.replicate_zero, List.cons_append, List.nil_append])
    (have ww1 := hq; refine wk ?_; clear ww1; (repeat' first | exact True.intro | refine Lf.mk ?_ ?_); all_goals intro hP)
    (refine resX ?_; try exact True.intro)
  | false =>
  cases q4 : (s.toList == (⟨#[100, 101, 108, 97, 121]⟩ : ByteArray).toList) with
  | true =>
    have hq := And.intro q0 (And.intro q1 (And.intro q2 (And.intro q3 q4)))
    have hk : keyB s = true := by unfold keyB; rw [e, q4]; simp
    rw [hk]
    clear e hk q0 q1 q2 q3 q4
    (refine ARun.intro Tryz.func111 rfl Tryz.call111 Tryz.ntmps111 Tryz.results111 ?_; simp only [List.length_cons, List.length_nil, List.length_map, Nat.reduceAdd, Nat.reduceSub, List.replicate_succ, List.replicate_zero, List.cons_append, List.nil_append])
    (have ww1 := hq; refine wk ?_; clear ww1; (repeat' first | exact True.intro | refine Lf.mk ?_ ?_); all_goals intro hP)
    (refine resX ?_; try exact True.intro)
  | false =>
  cases q5 : (s.toList == (⟨#[114, 111, 111, 109]⟩ : ByteArray).toList) with
  | true =>
    have hq := And.intro q0 (And.intro q1 (And.intro q2 (And.intro q3 (And.intro q4 q5))))
    have hk : keyB s = true := by unfold keyB; rw [e, q5]; simp
    rw [hk]
    clear e hk q0 q1 q2 q3 q4 q5
    (refine ARun.intro Tryz.func111 rfl Tryz.call111 Tryz.ntmps111 Tryz.results111 ?_; simp only [List.length_cons, List.length_nil, List.length_map, Nat.reduceAdd, Nat.reduceSub, List.replicate_succ, List.replicate_zero, List.cons_append, List.nil_append])
    (have ww1 := hq; refine wk ?_; clear ww1; (repeat' first | exact True.intro | refine Lf.mk ?_ ?_); all_goals intro hP)
    (refine resX ?_; try exact True.intro)
  | false =>
  cases q6 : (s.toList == (⟨#[98, 97, 99, 107]⟩ : ByteArray).toList) with
  | true =>
    have hq := And.intro q0 (And.intro q1 (And.intro q2 (And.intro q3 (And.intro q4 (And.intro q5 q6)))))
    have hk : keyB s = true := by unfold keyB; rw [e, q6]; simp
    rw [hk]
    clear e hk q0 q1 q2 q3 q4 q5 q6
    (refine ARun.intro Tryz.func111 rfl Tryz.call111 Tryz.ntmps111 Tryz.results111 ?_; simp only [List.length_cons, List.length_nil, List.length_map, Nat.reduceAdd, Nat.reduceSub, List.replicate_succ, List.replicate_zero, List.cons_append, List.nil_append])
    (have ww1 := hq; refine wk ?_; clear ww1; (repeat' first | exact True.intro | refine Lf.mk ?_ ?_); all_goals intro hP)
    (refine resX ?_; try exact True.intro)
  | false =>
  cases q7 : (s.toList == (⟨#[112, 97, 116, 104, 115]⟩ : ByteArray).toList) with
  | true =>
    have hq := And.intro q0 (And.intro q1 (And.intro q2 (And.intro q3 (And.intro q4 (And.intro q5 (And.intro q6 q7))))))
    have hk : keyB s = true := by unfold keyB; rw [e, q7]; simp
    rw [hk]
    clear e hk q0 q1 q2 q3 q4 q5 q6 q7
    (refine ARun.intro Tryz.func111 rfl Tryz.call111 Tryz.ntmps111 Tryz.results111 ?_; simp only [List.length_cons, List.length_nil, List.length_map, Nat.reduceAdd, Nat.reduceSub, List.replicate_succ, List.replicate_zero, List.cons_append, List.nil_append])
    (have ww1 := hq; refine wk ?_; clear ww1; (repeat' first | exact True.intro | refine Lf.mk ?_ ?_); all_goals intro hP)
    (refine resX ?_; try exact True.intro)
  | false =>
  cases q8 : (s.toList == (⟨#[119, 105, 110, 100, 111, 119]⟩ : ByteArray).toList) with
  | true =>
    have hq := And.intro q0 (And.intro q1 (And.intro q2 (And.intro q3 (And.intro q4 (And.intro q5 (And.intro q6 (And.intro q7 q8)))))))
    have hk : keyB s = true := by unfold keyB; rw [e, q8]; simp
    rw [hk]
    clear e hk q0 q1 q2 q3 q4 q5 q6 q7 q8
    (refine ARun.intro Tryz.func111 rfl Tryz.call111 Tryz.ntmps111 Tryz.results111 ?_; simp only [List.length_cons, List.length_nil, List.length_map, Nat.reduceAdd, Nat.reduceSub, List.replicate_succ, List.replicate_zero, List.cons_append, List.nil_append])
    (have ww1 := hq; refine wk ?_; clear ww1; (repeat' first | exact True.intro | refine Lf.mk ?_ ?_); all_goals intro hP)
    (refine resX ?_; try exact True.intro)
  | false =>
  cases q9 : (s.toList == (⟨#[115, 116, 97, 114, 116]⟩ : ByteArray).toList) with
  | true =>
    have hq := And.intro q0 (And.intro q1 (And.intro q2 (And.intro q3 (And.intro q4 (And.intro q5 (And.intro q6 (And.intro q7 (And.intro q8 q9))))))))
    have hk : keyB s = true := by unfold keyB; rw [e, q9]; simp
    rw [hk]
    clear e hk q0 q1 q2 q3 q4 q5 q6 q7 q8 q9
    (refine ARun.intro Tryz.func111 rfl Tryz.call111 Tryz.ntmps111 Tryz.results111 ?_; simp only [List.length_cons, List.length_nil, List.length_map, Nat.reduceAdd, Nat.reduceSub, List.replicate_succ, List.replicate_zero, List.cons_append, List.nil_append])
    (have ww1 := hq; refine wk ?_; clear ww1; (repeat' first | exact True.intro | refine Lf.mk ?_ ?_); all_goals intro hP)
    (refine resX ?_; try exact True.intro)
  | false =>
  cases q10 : (s.toList == (⟨#[112, 97, 99, 101]⟩ : ByteArray).toList) with
  | true =>
    have hq := And.intro q0 (And.intro q1 (And.intro q2 (And.intro q3 (And.intro q4 (And.intro q5 (And.intro q6 (And.intro q7 (And.intro q8 (And.intro q9 q10)))))))))
    have hk : keyB s = true := by unfold keyB; rw [e, q10]; simp
    rw [hk]
    clear e hk q0 q1 q2 q3 q4 q5 q6 q7 q8 q9 q10
    (refine ARun.intro Tryz.func111 rfl Tryz.call111 Tryz.ntmps111 Tryz.results111 ?_; simp only [List.length_cons, List.length_nil, List.length_map, Nat.reduceAdd, Nat.reduceSub, List.replicate_succ, List.replicate_zero, List.cons_append, List.nil_append])
    (have ww1 := hq; refine wk ?_; clear ww1; (repeat' first | exact True.intro | refine Lf.mk ?_ ?_); all_goals intro hP)
    (refine resX ?_; try exact True.intro)
  | false =>
  cases q11 : (s.toList == (⟨#[118, 97, 114]⟩ : ByteArray).toList) with
  | true =>
    have hq := And.intro q0 (And.intro q1 (And.intro q2 (And.intro q3 (And.intro q4 (And.intro q5 (And.intro q6 (And.intro q7 (And.intro q8 (And.intro q9 (And.intro q10 q11))))))))))
    have hk : keyB s = true := by unfold keyB; rw [e, q11]; simp
    rw [hk]
    clear e hk q0 q1 q2 q3 q4 q5 q6 q7 q8 q9 q10 q11
    (refine ARun.intro Tryz.func111 rfl Tryz.call111 Tryz.ntmps111 Tryz.results111 ?_; simp only [List.length_cons, List.length_nil, List.length_map, Nat.reduceAdd, Nat.reduceSub, List.replicate_succ, List.replicate_zero, List.cons_append, List.nil_append])
    (have ww1 := hq; refine wk ?_; clear ww1; (repeat' first | exact True.intro | refine Lf.mk ?_ ?_); all_goals intro hP)
    (refine resX ?_; try exact True.intro)
  | false =>
  cases q12 : (s.toList == (⟨#[111, 110]⟩ : ByteArray).toList) with
  | true =>
    have hq := And.intro q0 (And.intro q1 (And.intro q2 (And.intro q3 (And.intro q4 (And.intro q5 (And.intro q6 (And.intro q7 (And.intro q8 (And.intro q9 (And.intro q10 (And.intro q11 q12)))))))))))
    have hk : keyB s = true := by unfold keyB; rw [e, q12]; simp
    rw [hk]
    clear e hk q0 q1 q2 q3 q4 q5 q6 q7 q8 q9 q10 q11 q12
    (refine ARun.intro Tryz.func111 rfl Tryz.call111 Tryz.ntmps111 Tryz.results111 ?_; simp only [List.length_cons, List.length_nil, List.length_map, Nat.reduceAdd, Nat.reduceSub, List.replicate_succ, List.replicate_zero, List.cons_append, List.nil_append])
    (have ww1 := hq; refine wk ?_; clear ww1; (repeat' first | exact True.intro | refine Lf.mk ?_ ?_); all_goals intro hP)
    (refine resX ?_; try exact True.intro)
  | false =>
  cases q13 : (s.toList == (⟨#[105, 102]⟩ : ByteArray).toList) with
  | true =>
    have hq := And.intro q0 (And.intro q1 (And.intro q2 (And.intro q3 (And.intro q4 (And.intro q5 (And.intro q6 (And.intro q7 (And.intro q8 (And.intro q9 (And.intro q10 (And.intro q11 (And.intro q12 q13))))))))))))
    have hk : keyB s = true := by unfold keyB; rw [e, q13]; simp
    rw [hk]
    clear e hk q0 q1 q2 q3 q4 q5 q6 q7 q8 q9 q10 q11 q12 q13
    (refine ARun.intro Tryz.func111 rfl Tryz.call111 Tryz.ntmps111 Tryz.results111 ?_; simp only [List.length_cons, List.length_nil, List.length_map, Nat.reduceAdd, Nat.reduceSub, List.replicate_succ, List.replicate_zero, List.cons_append, List.nil_append])
    (have ww1 := hq; refine wk ?_; clear ww1; (repeat' first | exact True.intro | refine Lf.mk ?_ ?_); all_goals intro hP)
    (refine resX ?_; try exact True.intro)
  | false =>
  cases q14 : (s.toList == (⟨#[101, 108, 115, 101]⟩ : ByteArray).toList) with
  | true =>
    have hq := And.intro q0 (And.intro q1 (And.intro q2 (And.intro q3 (And.intro q4 (And.intro q5 (And.intro q6 (And.intro q7 (And.intro q8 (And.intro q9 (And.intro q10 (And.intro q11 (And.intro q12 (And.intro q13 q14)))))))))))))
    have hk : keyB s = true := by unfold keyB; rw [e, q14]; simp
    rw [hk]
    clear e hk q0 q1 q2 q3 q4 q5 q6 q7 q8 q9 q10 q11 q12 q13 q14
    (refine ARun.intro Tryz.func111 rfl Tryz.call111 Tryz.ntmps111 Tryz.results111 ?_; simp only [List.length_cons, List.length_nil, List.length_map, Nat.reduceAdd, Nat.reduceSub, List.replicate_succ, List.replicate_zero, List.cons_append, List.nil_append])
    (have ww1 := hq; refine wk ?_; clear ww1; (repeat' first | exact True.intro | refine Lf.mk ?_ ?_); all_goals intro hP)
    (refine resX ?_; try exact True.intro)
  | false =>
  cases q15 : (s.toList == (⟨#[109, 105, 110]⟩ : ByteArray).toList) with
  | true =>
    have hq := And.intro q0 (And.intro q1 (And.intro q2 (And.intro q3 (And.intro q4 (And.intro q5 (And.intro q6 (And.intro q7 (And.intro q8 (And.intro q9 (And.intro q10 (And.intro q11 (And.intro q12 (And.intro q13 (And.intro q14 q15))))))))))))))
    have hk : keyB s = true := by unfold keyB; rw [e, q15]; simp
    rw [hk]
    clear e hk q0 q1 q2 q3 q4 q5 q6 q7 q8 q9 q10 q11 q12 q13 q14 q15
    (refine ARun.intro Tryz.func111 rfl Tryz.call111 Tryz.ntmps111 Tryz.results111 ?_; simp only [List.length_cons, List.length_nil, List.length_map, Nat.reduceAdd, Nat.reduceSub, List.replicate_succ, List.replicate_zero, List.cons_append, List.nil_append])
    (have ww1 := hq; refine wk ?_; clear ww1; (repeat' first | exact True.intro | refine Lf.mk ?_ ?_); all_goals intro hP)
    (refine resX ?_; try exact True.intro)
  | false =>
  cases q16 : (s.toList == (⟨#[109, 97, 120]⟩ : ByteArray).toList) with
  | true =>
    have hq := And.intro q0 (And.intro q1 (And.intro q2 (And.intro q3 (And.intro q4 (And.intro q5 (And.intro q6 (And.intro q7 (And.intro q8 (And.intro q9 (And.intro q10 (And.intro q11 (And.intro q12 (And.intro q13 (And.intro q14 (And.intro q15 q16)))))))))))))))
    have hk : keyB s = true := by unfold keyB; rw [e, q16]; simp
    rw [hk]
    clear e hk q0 q1 q2 q3 q4 q5 q6 q7 q8 q9 q10 q11 q12 q13 q14 q15 q16
    (refine ARun.intro Tryz.func111 rfl Tryz.call111 Tryz.ntmps111 Tryz.results111 ?_; simp only [List.length_cons, List.length_nil, List.length_map, Nat.reduceAdd, Nat.reduceSub, List.replicate_succ, List.replicate_zero, List.cons_append, List.nil_append])
    (have ww1 := hq; refine wk ?_; clear ww1; (repeat' first | exact True.intro | refine Lf.mk ?_ ?_); all_goals intro hP)
    (refine resX ?_; try exact True.intro)
  | false =>
  cases q17 : (s.toList == (⟨#[117, 112]⟩ : ByteArray).toList) with
  | true =>
    have hq := And.intro q0 (And.intro q1 (And.intro q2 (And.intro q3 (And.intro q4 (And.intro q5 (And.intro q6 (And.intro q7 (And.intro q8 (And.intro q9 (And.intro q10 (And.intro q11 (And.intro q12 (And.intro q13 (And.intro q14 (And.intro q15 (And.intro q16 q17))))))))))))))))
    have hk : keyB s = true := by unfold keyB; rw [e, q17]; simp
    rw [hk]
    clear e hk q0 q1 q2 q3 q4 q5 q6 q7 q8 q9 q10 q11 q12 q13 q14 q15 q16 q17
    (refine ARun.intro Tryz.func111 rfl Tryz.call111 Tryz.ntmps111 Tryz.results111 ?_; simp only [List.length_cons, List.length_nil, List.length_map, Nat.reduceAdd, Nat.reduceSub, List.replicate_succ, List.replicate_zero, List.cons_append, List.nil_append])
    (have ww1 := hq; refine wk ?_; clear ww1; (repeat' first | exact True.intro | refine Lf.mk ?_ ?_); all_goals intro hP)
    (refine resX ?_; try exact True.intro)
  | false =>
  have hq := And.intro q0 (And.intro q1 (And.intro q2 (And.intro q3 (And.intro q4 (And.intro q5 (And.intro q6 (And.intro q7 (And.intro q8 (And.intro q9 (And.intro q10 (And.intro q11 (And.intro q12 (And.intro q13 (And.intro q14 (And.intro q15 (And.intro q16 q17))))))))))))))))
  have hk : keyB s = (inB wUnits s || (inB wEvents s || (inB wPolicies s || inB wInputs s))) := by
    unfold keyB; rw [e, q0, q1, q2, q3, q4, q5, q6, q7, q8, q9, q10, q11, q12, q13, q14, q15, q16, q17]; simp
  rw [hk]
  clear e hk q0 q1 q2 q3 q4 q5 q6 q7 q8 q9 q10 q11 q12 q13 q14 q15 q16 q17
  generalize inB wUnits s = uu at *
  generalize inB wEvents s = ee at *
  generalize inB wPolicies s = pp at *
  generalize inB wInputs s = ii at *
  (refine ARun.intro Tryz.func111 rfl Tryz.call111 Tryz.ntmps111 Tryz.results111 ?_; simp only [List.length_cons, List.length_nil, List.length_map, Nat.reduceAdd, Nat.reduceSub, List.replicate_succ, List.replicate_zero, List.cons_append, List.nil_append])
  (have ww1 := hq; have cc1 := fun z1 => h1 z1; have cc2 := fun z1 => h2 z1; have cc3 := fun z1 => h3 z1; have cc4 := fun z1 => h4 z1; refine wk ?_; clear ww1 cc1 cc2 cc3 cc4; (repeat' first | exact True.intro | refine Lf.mk ?_ ?_); all_goals intro hP)
  all_goals clear h1 h2 h3 h4
  all_goals ((refine resX ?_; try exact True.intro))
  all_goals simp_all
theorem empty_iff (s : ByteArray) : (s.toList == (⟨#[]⟩ : ByteArray).toList) = decide (s.size = 0) := by
  rw [Bool.eq_iff_iff, beq_iff_eq, decide_eq_true_eq]
  have : ∀ a : ByteArray, a.toList = a.data.toList := fun a => ByteArray.toList_eq a
  rw [this, this]
  have h2 : s.size = s.data.toList.length := by rw [Array.length_toList]; rfl
  rw [h2, List.length_eq_zero_iff]
theorem isName_run (s : ByteArray) (hs : s.size ≤ 2000000) (H0 : List AObj) :
    ARun Tryz.prog 101 [aStr s] H0 (.ret (.b (nameB s)) H0) := by
  have u1 := fun H0 => isKey_run s H0
  have he := empty_iff s
  have hz := bytesZ_len s
  have hm : s.size ≤ maxLen := Nat.le_trans hs (by decide)
  by_cases h0 : s.size = 0
  · rw [decide_eq_true h0] at he
    have hn : nameB s = false := by unfold nameB; rw [h0]; simp
    rw [hn]
    (refine ARun.intro Tryz.func101 rfl Tryz.call101 Tryz.ntmps101 Tryz.results101 ?_; simp only [List.length_cons, List.length_nil, List.length_map, Nat.reduceAdd, Nat.reduceSub, List.replicate_succ, List.replicate_zero, List.cons_append, List.nil_append])
    (have ww1 := he; refine wk ?_; clear ww1; (repeat' first | exact True.intro | refine Lf.mk ?_ ?_); all_goals intro hP)
    (refine resX ?_; try exact True.intro)
  rw [decide_eq_false h0] at he
  by_cases h12 : 12 < s.size
  · have hn : nameB s = false := by unfold nameB; rw [show decide (s.size ≤ 12) = false from decide_eq_false (by omega)]; simp
    rw [hn]
    (refine ARun.intro Tryz.func101 rfl Tryz.call101 Tryz.ntmps101 Tryz.results101 ?_; simp only [List.length_cons, List.length_nil, List.length_map, Nat.reduceAdd, Nat.reduceSub, List.replicate_succ, List.replicate_zero, List.cons_append, List.nil_append])
    (have ww1 := he; refine wkO ?_; clear ww1; (repeat' first | exact True.intro | refine Lf.mk ?_ ?_); all_goals intro hP)
    (refine resX ?_; try exact True.intro)
  cases hk : keyB s with
  | true =>
    have hn : nameB s = false := by unfold nameB; rw [hk]; simp
    rw [hn]
    rw [hk] at u1
    (refine ARun.intro Tryz.func101 rfl Tryz.call101 Tryz.ntmps101 Tryz.results101 ?_; simp only [List.length_cons, List.length_nil, List.length_map, Nat.reduceAdd, Nat.reduceSub, List.replicate_succ, List.replicate_zero, List.cons_append, List.nil_append])
    (have ww1 := he; have cc1 := fun z1 => u1 z1; refine wkO ?_; clear ww1 cc1; (repeat' first | exact True.intro | refine Lf.mk ?_ ?_); all_goals intro hP)
    (refine resX ?_; try exact True.intro)
  | false =>
  have hn : nameB s = charsS (bytesZ s) 0 := by unfold nameB; rw [hk, decide_eq_true (show s.size ≤ 12 by omega), decide_eq_true (show 1 ≤ s.size by omega)]; simp
  rw [hn]
  rw [hk] at u1
  clear hn
  (refine ARun.intro Tryz.func101 rfl Tryz.call101 Tryz.ntmps101 Tryz.results101 ?_; simp only [List.length_cons, List.length_nil, List.length_map, Nat.reduceAdd, Nat.reduceSub, List.replicate_succ, List.replicate_zero, List.cons_append, List.nil_append])
  (have ww1 := he; have ww2 := hm; have cc1 := fun z1 => u1 z1; refine wkO ?_; clear ww1 ww2 cc1; (repeat' first | exact True.intro | refine Lf.mk ?_ ?_); all_goals intro hP)
  refine awp_loop_ind (σ := Nat) (fun k => s.size - k) (fun k => k ≤ s.size ∧ charsS (bytesZ s) 0 = charsS ((bytesZ s).drop k) k)
    (fun k => (aStr s :: .any :: .any :: .any :: .any :: .any :: .any :: .any :: .any :: .any :: .any :: .any :: .any :: .any :: .any :: .any :: .any :: .any :: .pv (.rs 1 (rowsZ (bytesZ s))) :: .i (bytesZ s).length :: .i k :: .any :: .any :: .any :: .any :: .any :: .any :: .any :: .any :: .any :: .any :: .any :: .any :: .any :: .any :: .any :: .any :: .any :: .any :: .any :: .any :: .any :: .any :: .any :: .any :: .any :: .any :: .any :: .any :: .any :: [])) (fun k => H0) 0 ⟨Nat.zero_le _, by simp⟩ (by (refine fgtX ?_; try exact True.intro)) ?_
  rintro k ⟨k1, k2⟩
  have hw : IntKind.i64.wrap ((k : Int) + 1) = ((k + 1 : Nat) : Int) := by rw [wrap_of (by omega) (by omega)]; omega
  by_cases hkk : k = s.size
  · subst hkk
    rw [List.drop_eq_nil_of_le (by rw [bytesZ_len]; exact Nat.le_refl _)] at k2
    rw [k2, show charsS [] s.size = true from rfl]
    clear k2
    (refine wkO ?_; (repeat' first | exact True.intro | refine Lf.mk ?_ ?_); all_goals intro hP)
    (refine resX ?_; try exact True.intro)
  · have hlt : k < s.size := by omega
    have hlz : k < (bytesZ s).length := by rw [bytesZ_len]; exact hlt
    have hd : (bytesZ s).drop k = (bytesZ s).getD k 0 :: (bytesZ s).drop (k + 1) := by
      rw [List.drop_eq_getElem_cons hlz, List.getD_eq_getElem?_getD, List.getElem?_eq_getElem hlz]; rfl
    have hg : (bytesZ s)[k]? = some ((bytesZ s).getD k 0) := by rw [List.getD_eq_getElem?_getD, List.getElem?_eq_getElem hlz]; rfl
    have hb := bytes_nn (getD_mem hlz)
    rw [hd] at k2
    simp only [charsS] at k2
    generalize (bytesZ s).getD k 0 = c at k2 hg hb
    (have ww1 := hw; have ww2 := hg; have ww3 := hlz; have ww4 := @bytesZ_len; refine wkO ?_; clear ww1 ww2 ww3 ww4; (repeat' first | exact True.intro | refine Lf.mk ?_ ?_); all_goals intro hP)
    all_goals first
      | (refine ⟨k + 1, by omega, ⟨by omega, ?_⟩, by (refine fgtX ?_; try exact True.intro)⟩; rw [k2, show charS k c = true from (charS_iff _ _).2 (by omega), Bool.true_and]; done)
      | ((refine resX ?_; try exact True.intro); rw [k2, show charS k c = false from Bool.eq_false_iff.2 (fun h => by have := (charS_iff _ _).1 h; omega), Bool.false_and]; done)
/-! The one tree that a name is checked in. -/
abbrev bE : ByteArray := ⟨#[]⟩
abbrev bA : ByteArray := ⟨#[97]⟩
abbrev nd (k : Int) (s : ByteArray) (kids : List (List PV)) : List PV := [.i k, .sc (.string s), .i 0, .i 0, .i 0, .rs 6 kids]
theorem emptyE : ((⟨#[]⟩ : ByteArray).toList == (⟨#[]⟩ : ByteArray).toList) = true := by simp
theorem has1_run (k : Int) (s : ByteArray) (kids : List (List PV)) (H0 : List AObj) :
    ARun Tryz.prog 83 [.ag (nd k s kids), .b true, .b false, .b false] H0 (.ret (.b true) H0) := by
  (refine ARun.intro Tryz.func83 rfl Tryz.call83 Tryz.ntmps83 Tryz.results83 ?_; simp only [List.length_cons, List.length_nil, List.length_map, Nat.reduceAdd, Nat.reduceSub, List.replicate_succ, List.replicate_zero, List.cons_append, List.nil_append])
  (refine wk ?_; (repeat' first | exact True.intro | refine Lf.mk ?_ ?_); all_goals intro hP)
  (refine resX ?_; try exact True.intro)
theorem has2_run (k : Int) (kids : List (List PV)) (H0 : List AObj) :
    ARun Tryz.prog 83 [.ag (nd k bE kids), .b false, .b false, .b false] H0 (.ret (.b true) H0) := by
  have he := emptyE
  (refine ARun.intro Tryz.func83 rfl Tryz.call83 Tryz.ntmps83 Tryz.results83 ?_; simp only [List.length_cons, List.length_nil, List.length_map, Nat.reduceAdd, Nat.reduceSub, List.replicate_succ, List.replicate_zero, List.cons_append, List.nil_append])
  (have ww1 := he; refine wk ?_; clear ww1; (repeat' first | exact True.intro | refine Lf.mk ?_ ?_); all_goals intro hP)
  (refine resX ?_; try exact True.intro)
theorem has3_run (k : Int) (kids : List (List PV)) (H0 : List AObj) :
    ARun Tryz.prog 83 [.ag (nd k bE kids), .b false, .b true, .b true] H0 (.ret (.b true) H0) := by
  have he := emptyE
  (refine ARun.intro Tryz.func83 rfl Tryz.call83 Tryz.ntmps83 Tryz.results83 ?_; simp only [List.length_cons, List.length_nil, List.length_map, Nat.reduceAdd, Nat.reduceSub, List.replicate_succ, List.replicate_zero, List.cons_append, List.nil_append])
  (have ww1 := he; refine wk ?_; clear ww1; (repeat' first | exact True.intro | refine Lf.mk ?_ ?_); all_goals intro hP)
  (refine resX ?_; try exact True.intro)
theorem nameA : nameB bA = true := by
  simp [nameB, charsS, bytesZ, charS, keyB, inB, wUnits, wEvents, wPolicies, wInputs, wOthers, eqB, ByteArray.toList_eq, ByteArray.size]
theorem isNamed_run (H0 : List AObj) : ARun Tryz.prog 104 [.ag (nd 14 bA [])] H0 (.ret (.b true) H0) := by
  have h1 := fun H0 => has1_run 14 bA [] H0
  have h2 := fun H0 => isName_run bA (by decide) H0
  rw [nameA] at h2
  (refine ARun.intro Tryz.func104 rfl Tryz.call104 Tryz.ntmps104 Tryz.results104 ?_; simp only [List.length_cons, List.length_nil, List.length_map, Nat.reduceAdd, Nat.reduceSub, List.replicate_succ, List.replicate_zero, List.cons_append, List.nil_append])
  (have cc1 := fun z1 => h1 z1; have cc2 := fun z1 => h2 z1; refine wk ?_; clear cc1 cc2; (repeat' first | exact True.intro | refine Lf.mk ?_ ?_); all_goals intro hP)
  (refine resX ?_; try exact True.intro)
theorem isNumber_run (H0 : List AObj) : ARun Tryz.prog 112 [.ag (nd 13 bE [])] H0 (.ret (.b true) H0) := by
  have h1 := fun H0 => has3_run 13 [] H0
  (refine ARun.intro Tryz.func112 rfl Tryz.call112 Tryz.ntmps112 Tryz.results112 ?_; simp only [List.length_cons, List.length_nil, List.length_map, Nat.reduceAdd, Nat.reduceSub, List.replicate_succ, List.replicate_zero, List.cons_append, List.nil_append])
  (have cc1 := fun z1 => h1 z1; refine wk ?_; clear cc1; (repeat' first | exact True.intro | refine Lf.mk ?_ ?_); all_goals intro hP)
  (refine resX ?_; try exact True.intro)
theorem isPlain_run (H0 : List AObj) : ARun Tryz.prog 102 [.ag (nd 13 bE [])] H0 (.ret (.b true) H0) := by
  have h1 := fun H0 => isNumber_run H0
  (refine ARun.intro Tryz.func102 rfl Tryz.call102 Tryz.ntmps102 Tryz.results102 ?_; simp only [List.length_cons, List.length_nil, List.length_map, Nat.reduceAdd, Nat.reduceSub, List.replicate_succ, List.replicate_zero, List.cons_append, List.nil_append])
  (have cc1 := fun z1 => h1 z1; refine wk ?_; clear cc1; (repeat' first | exact True.intro | refine Lf.mk ?_ ?_); all_goals intro hP)
  (refine resX ?_; try exact True.intro)
theorem ncount0_run (k : Int) (s : ByteArray) (m : Int) (H0 : List AObj) : ARun Tryz.prog 84 [.ag (nd k s []), .i m] H0 (.ret (.i 1) H0) := by
  (refine ARun.intro Tryz.func84 rfl Tryz.call84 Tryz.ntmps84 Tryz.results84 ?_; simp only [List.length_cons, List.length_nil, List.length_map, Nat.reduceAdd, Nat.reduceSub, List.replicate_succ, List.replicate_zero, List.cons_append, List.nil_append])
  (refine wk ?_; (repeat' first | exact True.intro | refine Lf.mk ?_ ?_); all_goals intro hP)
  refine awp_loop 1 ?_
  (refine wk ?_; (repeat' first | exact True.intro | refine Lf.mk ?_ ?_); all_goals intro hP)
  (refine resX ?_; try exact True.intro)
theorem ncount2_run (s : ByteArray) (H0 : List AObj) : ARun Tryz.prog 84 [.ag (nd 4 s [nd 14 bA [], nd 13 bE []]), .i 2499] H0 (.ret (.i 3) H0) := by
  have h1 := fun m H0 => ncount0_run 14 bA m H0
  have h2 := fun m H0 => ncount0_run 13 bE m H0
  (refine ARun.intro Tryz.func84 rfl Tryz.call84 Tryz.ntmps84 Tryz.results84 ?_; simp only [List.length_cons, List.length_nil, List.length_map, Nat.reduceAdd, Nat.reduceSub, List.replicate_succ, List.replicate_zero, List.cons_append, List.nil_append])
  (refine wk ?_; (repeat' first | exact True.intro | refine Lf.mk ?_ ?_); all_goals intro hP)
  refine awp_loop 3 ?_
  (have cc1 := fun z1 z2 => h1 z1 z2; have cc2 := fun z1 z2 => h2 z1 z2; refine wk ?_; clear cc1 cc2; (repeat' first | exact True.intro | refine Lf.mk ?_ ?_); all_goals intro hP)
  (refine resX ?_; try exact True.intro)
theorem ncount1_run (s : ByteArray) (H0 : List AObj) : ARun Tryz.prog 84 [.ag (nd 1 bE [nd 4 s [nd 14 bA [], nd 13 bE []]]), .i 2500] H0 (.ret (.i 4) H0) := by
  have h1 := fun H0 => ncount2_run s H0
  (refine ARun.intro Tryz.func84 rfl Tryz.call84 Tryz.ntmps84 Tryz.results84 ?_; simp only [List.length_cons, List.length_nil, List.length_map, Nat.reduceAdd, Nat.reduceSub, List.replicate_succ, List.replicate_zero, List.cons_append, List.nil_append])
  (refine wk ?_; (repeat' first | exact True.intro | refine Lf.mk ?_ ?_); all_goals intro hP)
  refine awp_loop 2 ?_
  (have cc1 := fun z1 => h1 z1; refine wk ?_; clear cc1; (repeat' first | exact True.intro | refine Lf.mk ?_ ?_); all_goals intro hP)
  (refine resX ?_; try exact True.intro)
theorem dr86_9_X20h : Drawn Tryz.prog 9 (regOps 9 ((Tryz.f86.body).getD .skip)) [5, 23, 29] [] [.win [0], .win [0], .win [0], .win [0], .win [0], .eff 0, .win [1], .win [1], .win [1], .win [1], .win [1], .win [1], .win [1], .win [1], .win [1], .win [1], .win [1], .win [1], .win [1, 2], .win [1, 2], .win [1, 2], .win [1], .win [1], .eff 1, .win [2], .win [2], .win [2], .win [2], .win [2], .eff 2, .win [3], .win [3]] 3 [] := ⟨rfl, by as_aux_lemma => kernel_rfl⟩
theorem nall1_run (F : FuncId) (k : Int) (s : ByteArray) (kids : List (List PV)) (b : Bool) (h : ∀ H0, ARun Tryz.prog F [.ag (nd k s kids)] H0 (.ret (.b b) H0)) (id : Nat) (H0 : List AObj)
    (hc : H0[id]? = some (.cells 93 [.fn (.func F) [] []])) :
    ARun Tryz.prog 100 [.ag (nd k s kids), .p id 0] H0 (.ret (.b (!b)) H0) := by
  have hc2 : ∀ X, (H0 ++ [X])[id]? = some (.cells 93 [.fn (.func F) [] []]) := by
    intro X
    rw [List.getElem?_append_left (List.getElem?_eq_some_iff.1 hc).1, hc]
  (refine ARun.intro Tryz.func100 rfl Tryz.call100 Tryz.ntmps100 Tryz.results100 ?_; simp only [List.length_cons, List.length_nil, List.length_map, Nat.reduceAdd, Nat.reduceSub, List.replicate_succ, List.replicate_zero, List.cons_append, List.nil_append])
  (have ww1 := hc2; have ww2 := hc; have cc1 := fun z1 => h z1; refine wkS ?_; clear ww1 ww2 cc1; (repeat' first | exact True.intro | refine Lf.mk ?_ ?_); all_goals intro hP)
  (refine resX ?_; try exact True.intro)
theorem nindex_run (k : Int) (s : ByteArray) (kids : List (List PV)) (b : Bool) (id : Nat) (H0 : List AObj)
    (h : ARun Tryz.prog 100 [.ag (nd k s kids), .p id 0] H0 (.ret (.b b) H0)) :
    ARun Tryz.prog 110 [.rs 6 [nd k s kids], .fn (.func 100) [] [.p id 0]] H0 (.ret (.i (if b then 0 else -1)) H0) := by
  cases b with
  | true =>
    (refine ARun.intro Tryz.func110 rfl Tryz.call110 Tryz.ntmps110 Tryz.results110 ?_; simp only [List.length_cons, List.length_nil, List.length_map, Nat.reduceAdd, Nat.reduceSub, List.replicate_succ, List.replicate_zero, List.cons_append, List.nil_append])
    (refine wk ?_; (repeat' first | exact True.intro | refine Lf.mk ?_ ?_); all_goals intro hP)
    refine awp_loop 1 ?_
    (have cc1 := h; refine wk ?_; clear cc1; (repeat' first | exact True.intro | refine Lf.mk ?_ ?_); all_goals intro hP)
    (refine resX ?_; try exact True.intro)
  | false =>
    (refine ARun.intro Tryz.func110 rfl Tryz.call110 Tryz.ntmps110 Tryz.results110 ?_; simp only [List.length_cons, List.length_nil, List.length_map, Nat.reduceAdd, Nat.reduceSub, List.replicate_succ, List.replicate_zero, List.cons_append, List.nil_append])
    (refine wk ?_; (repeat' first | exact True.intro | refine Lf.mk ?_ ?_); all_goals intro hP)
    refine awp_loop 2 ?_
    (have cc1 := h; refine wk ?_; clear cc1; (repeat' first | exact True.intro | refine Lf.mk ?_ ?_); all_goals intro hP)
    (refine resX ?_; try exact True.intro)
theorem ncontains_run (k : Int) (s : ByteArray) (kids : List (List PV)) (b : Bool) (id : Nat) (H0 : List AObj)
    (h : ARun Tryz.prog 100 [.ag (nd k s kids), .p id 0] H0 (.ret (.b b) H0)) :
    ARun Tryz.prog 99 [.rs 6 [nd k s kids], .fn (.func 100) [] [.p id 0]] H0 (.ret (.b b) H0) := by
  have h1 := nindex_run k s kids b id H0 h
  cases b with
  | true =>
    simp only [if_true] at h1
    (refine ARun.intro Tryz.func99 rfl Tryz.call99 Tryz.ntmps99 Tryz.results99 ?_; simp only [List.length_cons, List.length_nil, List.length_map, Nat.reduceAdd, Nat.reduceSub, List.replicate_succ, List.replicate_zero, List.cons_append, List.nil_append])
    (have cc1 := h1; refine wk ?_; clear cc1; (repeat' first | exact True.intro | refine Lf.mk ?_ ?_); all_goals intro hP)
    (refine resX ?_; try exact True.intro)
  | false =>
    simp only [if_false, Bool.false_eq_true] at h1
    (refine ARun.intro Tryz.func99 rfl Tryz.call99 Tryz.ntmps99 Tryz.results99 ?_; simp only [List.length_cons, List.length_nil, List.length_map, Nat.reduceAdd, Nat.reduceSub, List.replicate_succ, List.replicate_zero, List.cons_append, List.nil_append])
    (have cc1 := h1; refine wk ?_; clear cc1; (repeat' first | exact True.intro | refine Lf.mk ?_ ?_); all_goals intro hP)
    (refine resX ?_; try exact True.intro)
theorem nall_run (F : FuncId) (k : Int) (s : ByteArray) (kids : List (List PV)) (b : Bool) (h : ∀ H0, ARun Tryz.prog F [.ag (nd k s kids)] H0 (.ret (.b b) H0)) (H0 : List AObj) :
    ARun Tryz.prog 85 [.rs 6 [nd k s kids], .fn (.func F) [] []] H0 (.ret (.b b) H0) := by
  have h1 := ncontains_run k s kids (!b) H0.length _ (nall1_run F k s kids b h H0.length (H0 ++ [.cells 93 [.fn (.func F) [] []]]) (by simp))
  cases b with
  | true =>
    simp only [Bool.not_true] at h1
    (refine ARun.intro Tryz.func85 rfl Tryz.call85 Tryz.ntmps85 Tryz.results85 ?_; simp only [List.length_cons, List.length_nil, List.length_map, Nat.reduceAdd, Nat.reduceSub, List.replicate_succ, List.replicate_zero, List.cons_append, List.nil_append])
    (have cc1 := h1; refine wk ?_; clear cc1; (repeat' first | exact True.intro | refine Lf.mk ?_ ?_); all_goals intro hP)
    (refine resX ?_; try exact True.intro)
  | false =>
    simp only [Bool.not_false] at h1
    (refine ARun.intro Tryz.func85 rfl Tryz.call85 Tryz.ntmps85 Tryz.results85 ?_; simp only [List.length_cons, List.length_nil, List.length_map, Nat.reduceAdd, Nat.reduceSub, List.replicate_succ, List.replicate_zero, List.cons_append, List.nil_append])
    (have cc1 := h1; refine wk ?_; clear cc1; (repeat' first | exact True.intro | refine Lf.mk ?_ ?_); all_goals intro hP)
    (refine resX ?_; try exact True.intro)
theorem isItem_run (s : ByteArray) (hs : s.size ≤ 2000000) (H0 : List AObj) :
    ARun Tryz.prog 86 [.ag (nd 4 s [nd 14 bA [], nd 13 bE []])] H0 (.ret (.b (nameB s)) H0) := by
  have q01 : ((0 : Int) ≤ 1) = True := by simp
  have q12 : ((1 : Int) ≤ 2) = True := by simp
  have q02 : ((0 : Int) ≤ 2) = True := by simp
  have q22 : ((2 : Int) ≤ 2) = True := by simp
  have qt1 : Int.toNat 1 = 1 := rfl
  have h1 := fun H0 => has1_run 4 s [nd 14 bA [], nd 13 bE []] H0
  have h2 := fun H0 => isName_run s hs H0
  have h3 := fun H0 => nall_run _ 14 bA [] true (fun H0 => isNamed_run H0) H0
  have h4 := fun H0 => nall_run _ 13 bE [] true (fun H0 => isPlain_run H0) H0
  cases hnm : nameB s with
  | true =>
    rw [hnm] at h2
    (refine ARun.intro Tryz.func86 rfl Tryz.call86 Tryz.ntmps86 Tryz.results86 ?_; simp only [List.length_cons, List.length_nil, List.length_map, Nat.reduceAdd, Nat.reduceSub, List.replicate_succ, List.replicate_zero, List.cons_append, List.nil_append])
    (have rr1 := dr86_9_X20h; have cc1 := fun z1 => h1 z1; have cc2 := fun z1 => h2 z1; have cc3 := fun z1 => h3 z1; have cc4 := fun z1 => h4 z1; refine wkS ?_; clear rr1 cc1 cc2 cc3 cc4; (repeat' first | exact True.intro | refine Lf.mk ?_ ?_); all_goals intro hP)
    (refine resX ?_; try exact True.intro)
  | false =>
    rw [hnm] at h2
    (refine ARun.intro Tryz.func86 rfl Tryz.call86 Tryz.ntmps86 Tryz.results86 ?_; simp only [List.length_cons, List.length_nil, List.length_map, Nat.reduceAdd, Nat.reduceSub, List.replicate_succ, List.replicate_zero, List.cons_append, List.nil_append])
    (have rr1 := dr86_9_X20h; have cc1 := fun z1 => h1 z1; have cc2 := fun z1 => h2 z1; have cc3 := fun z1 => h3 z1; have cc4 := fun z1 => h4 z1; refine wkS ?_; clear rr1 cc1 cc2 cc3 cc4; (repeat' first | exact True.intro | refine Lf.mk ?_ ?_); all_goals intro hP)
    (refine resX ?_; try exact True.intro)
theorem PValid_run (s : ByteArray) (hs : s.size ≤ 2000000) (H0 : List AObj) :
    ARun Tryz.prog 70 [.ag (nd 1 bE [nd 4 s [nd 14 bA [], nd 13 bE []]])] H0 (.ret (.b (nameB s)) H0) := by
  have h1 := fun H0 => has2_run 1 [nd 4 s [nd 14 bA [], nd 13 bE []]] H0
  have h2 := fun H0 => ncount1_run s H0
  have h3 := fun H0 => nall_run _ 4 s [nd 14 bA [], nd 13 bE []] (nameB s) (fun H0 => isItem_run s hs H0) H0
  (refine ARun.intro Tryz.func70 rfl Tryz.call70 Tryz.ntmps70 Tryz.results70 ?_; simp only [List.length_cons, List.length_nil, List.length_map, Nat.reduceAdd, Nat.reduceSub, List.replicate_succ, List.replicate_zero, List.cons_append, List.nil_append])
  (have cc1 := fun z1 => h1 z1; have cc2 := fun z1 => h2 z1; have cc3 := fun z1 => h3 z1; refine wk ?_; clear cc1 cc2 cc3; (repeat' first | exact True.intro | refine Lf.mk ?_ ?_); all_goals intro hP)
  (refine resX ?_; try exact True.intro)
theorem nameC_run (s : ByteArray) (hs : s.size ≤ 2000000) (H0 : List AObj) :
    ARun Tryz.prog 48 [aStr s] H0 (.ret (.b (nameB s)) H0) := by
  have h1 := PValid_run s hs []
  (refine ARun.intro Tryz.func48 rfl Tryz.call48 Tryz.ntmps48 Tryz.results48 ?_; simp only [List.length_cons, List.length_nil, List.length_map, Nat.reduceAdd, Nat.reduceSub, List.replicate_succ, List.replicate_zero, List.cons_append, List.nil_append])
  (have dd1 := h1; refine wk ?_; clear dd1; (repeat' first | exact True.intro | refine Lf.mk ?_ ?_); all_goals intro hP)
  (refine resX ?_; try exact True.intro)
theorem parts_run (e : Ex) (H0 : List AObj) : ARun Tryz.prog 107 [.ag (cE e)] H0 (.ret (.rs 4 (e.kids.map encE)) H0) := by
  (refine ARun.intro Tryz.func107 rfl Tryz.call107 Tryz.ntmps107 Tryz.results107 ?_; simp only [List.length_cons, List.length_nil, List.length_map, Nat.reduceAdd, Nat.reduceSub, List.replicate_succ, List.replicate_zero, List.cons_append, List.nil_append])
  repeat' (first | refine awp_seq ?_ | refine awp_block ?_ | refine awp_scope ?_ | ((first | refine awp_region_k fun Kn Kp hn hp => ?_) <;> (simp only [go_sem, Nat.reduceAdd, Nat.reduceSub, Nat.reduceMul, Nat.reduceLeDiff, Nat.reduceLT, Nat.reduceEqDiff, Int.reduceToNat, Int.reduceAdd, Int.reduceMul, Int.reduceSub, Int.reduceLT, Int.reduceLE, Int.reduceEq, Int.reduceNeg, Int.reduceBEq, Int.reduceBNe, ↓reduceIte, reduceCtorEq] <;> try simp (disch := omega) only [wrap_of])) | (refine hn _ _ ?_; clear hn hp Kn Kp) | (refine hp _ _ _ ?_; clear hn hp Kn Kp) | (refine awp_cond rfl (fun hb => ?_) (fun hb => ?_) <;> (try simp only [decide_eq_true_eq, decide_eq_false_iff_not, Bool.not_eq_true', Bool.not_eq_false', Bool.true_eq_false, Bool.false_eq_true, beq_iff_eq, bne_iff_ne, bne_eq_false_iff_eq, beq_eq_false_iff_ne, gt_iff_lt, ge_iff_le, Int.reduceEq, Int.reduceNe, Int.reduceLT, Int.reduceLE, ne_eq, not_true_eq_false, not_false_eq_true] at hb)) | ((first | refine awg_split (fun hb => ?_) (fun hb => ?_)) <;> have hb0 := hb <;> (try simp only [decide_eq_true_eq, decide_eq_false_iff_not, Bool.not_eq_true', Bool.not_eq_false', Bool.true_eq_false, Bool.false_eq_true, beq_iff_eq, bne_iff_ne, bne_eq_false_iff_eq, beq_eq_false_iff_ne, gt_iff_lt, ge_iff_le, Int.reduceEq, Int.reduceNe, Int.reduceLT, Int.reduceLE, ne_eq, not_true_eq_false, not_false_eq_true] at hb0) <;> (try simp only [beq_true, beq_false, Bool.not_eq_true', Bool.not_eq_false'] at hb) <;> (simp only [go_sem, Nat.reduceAdd, Nat.reduceSub, Nat.reduceMul, Nat.reduceLeDiff, Nat.reduceLT, Nat.reduceEqDiff, Int.reduceToNat, Int.reduceAdd, Int.reduceMul, Int.reduceSub, Int.reduceLT, Int.reduceLE, Int.reduceEq, Int.reduceNeg, Int.reduceBEq, Int.reduceBNe, ↓reduceIte, reduceCtorEq, hb, hb0] <;> try simp (disch := omega) only [wrap_of])) | refine awp_skip ?_ | refine awp_ret ?_ | refine awp_exit ?_ | refine awp_label ?_ | refine awloop_step ?_ | fail)
  ((try simp only [go_sem, Nat.reduceAdd, Nat.reduceSub, Nat.reduceMul, Nat.reduceLeDiff, Nat.reduceLT, Nat.reduceEqDiff, Int.reduceToNat, Int.reduceAdd, Int.reduceMul, Int.reduceSub, Int.reduceLT, Int.reduceLE, Int.reduceEq, Int.reduceNeg, Int.reduceBEq, Int.reduceBNe, ↓reduceIte, reduceCtorEq]); (first | refine ⟨_, rfl, _, rfl, Fin.pure0 0 ?_⟩ | refine ⟨_, rfl, _, rfl, Fin.pure 1 ?_⟩); simp only [AV.low, List.map_cons, List.map_nil, aOne, aev, List.getElem?_cons_zero, List.getElem?_cons_succ, Option.getD_some, List.length_append, List.length_cons, List.length_nil, Nat.lt_irrefl, if_false]; try rfl)
theorem Size_run (e : Ex) : ∀ (b : Int) (H0 : List AObj), -1000000 ≤ b → b ≤ 1000000 → ARun Tryz.prog 30 [.ag (cE e), .i b] H0 (.ret (.i (size e b)) H0) := by
  induction e using Ex.ind with
  | h e ih =>
    intro b H0 hb1 hb2
    (refine ARun.intro Tryz.func30 rfl Tryz.call30 Tryz.ntmps30 Tryz.results30 ?_; simp only [List.length_cons, List.length_nil, List.length_map, Nat.reduceAdd, Nat.reduceSub, List.replicate_succ, List.replicate_zero, List.cons_append, List.nil_append])
    refine awp_len_agg 0 3 rfl rfl fun hlen => ?_
    rw [List.length_map] at hlen
    repeat' (first | refine awp_seq ?_ | refine awp_block ?_ | refine awp_scope ?_ | ((first | refine awp_region_k fun Kn Kp hn hp => ?_) <;> (simp only [go_sem, Nat.reduceAdd, Nat.reduceSub, Nat.reduceMul, Nat.reduceLeDiff, Nat.reduceLT, Nat.reduceEqDiff, Int.reduceToNat, Int.reduceAdd, Int.reduceMul, Int.reduceSub, Int.reduceLT, Int.reduceLE, Int.reduceEq, Int.reduceNeg, Int.reduceBEq, Int.reduceBNe, ↓reduceIte, reduceCtorEq] <;> try simp (disch := omega) only [wrap_of])) | (refine hn _ _ ?_; clear hn hp Kn Kp) | (refine hp _ _ _ ?_; clear hn hp Kn Kp) | (refine awp_cond rfl (fun hb => ?_) (fun hb => ?_) <;> (try simp only [decide_eq_true_eq, decide_eq_false_iff_not, Bool.not_eq_true', Bool.not_eq_false', Bool.true_eq_false, Bool.false_eq_true, beq_iff_eq, bne_iff_ne, bne_eq_false_iff_eq, beq_eq_false_iff_ne, gt_iff_lt, ge_iff_le, Int.reduceEq, Int.reduceNe, Int.reduceLT, Int.reduceLE, ne_eq, not_true_eq_false, not_false_eq_true] at hb)) | ((first | refine awg_split (fun hb => ?_) (fun hb => ?_)) <;> have hb0 := hb <;> (try simp only [decide_eq_true_eq, decide_eq_false_iff_not, Bool.not_eq_true', Bool.not_eq_false', Bool.true_eq_false, Bool.false_eq_true, beq_iff_eq, bne_iff_ne, bne_eq_false_iff_eq, beq_eq_false_iff_ne, gt_iff_lt, ge_iff_le, Int.reduceEq, Int.reduceNe, Int.reduceLT, Int.reduceLE, ne_eq, not_true_eq_false, not_false_eq_true] at hb0) <;> (try simp only [beq_true, beq_false, Bool.not_eq_true', Bool.not_eq_false'] at hb) <;> (simp only [go_sem, Nat.reduceAdd, Nat.reduceSub, Nat.reduceMul, Nat.reduceLeDiff, Nat.reduceLT, Nat.reduceEqDiff, Int.reduceToNat, Int.reduceAdd, Int.reduceMul, Int.reduceSub, Int.reduceLT, Int.reduceLE, Int.reduceEq, Int.reduceNeg, Int.reduceBEq, Int.reduceBNe, ↓reduceIte, reduceCtorEq, hb, hb0] <;> try simp (disch := omega) only [wrap_of])) | refine awp_skip ?_ | refine awp_ret ?_ | refine awp_exit ?_ | refine awp_label ?_ | refine awloop_step ?_ | fail)
    refine awp_loop_ind (σ := Nat × Int) (fun s => e.kids.length - s.1) (fun s => 1 ≤ s.2 ∧ (s.2 ≤ 1 ∨ s.2 ≤ b + 1) ∧ sizeL (e.kids.drop s.1) b s.2 = size e b)
      (fun s => (.any :: .i b :: .p H0.length 0 :: .any :: .any :: .i s.2 :: .i s.1 :: .any :: .any :: .any :: .any :: .any :: .any :: .any :: .any :: .any :: .any :: .any :: .any :: .any :: .any :: .any :: .any :: .any :: .any :: .any :: .any :: .any :: .any :: .any :: .any :: []))
      (fun s => H0 ++ [.cells 33 [.i e.op, .i e.n, .i e.unit, .rs 4 (e.kids.map encE)]]) (0, 1) ⟨by omega, by omega, by rw [size_eq]; rfl⟩ (by (refine Wk.fgt ?_; simp only [Fgt, List.length_nil, List.set_cons_zero, List.set_cons_succ, Int.natCast_zero, Int.cast_ofNat_Int, Int.ofNat_eq_natCast, true_or, or_true, true_and, and_true, and_self, eq_self])) ?_
    rintro ⟨i, n⟩ ⟨h2, h3, h4⟩
    simp only at h2 h3 h4 ⊢
    cases hr : e.kids.drop i with
    | nil =>
      have hlt := drop_nil hr
      rw [hr, sizeL] at h4
      repeat' (first | refine awp_seq ?_ | refine awp_block ?_ | refine awp_scope ?_ | ((first | refine awp_region_k fun Kn Kp hn hp => ?_) <;> (simp only [go_sem, Nat.reduceAdd, Nat.reduceSub, Nat.reduceMul, Nat.reduceLeDiff, Nat.reduceLT, Nat.reduceEqDiff, Int.reduceToNat, Int.reduceAdd, Int.reduceMul, Int.reduceSub, Int.reduceLT, Int.reduceLE, Int.reduceEq, Int.reduceNeg, Int.reduceBEq, Int.reduceBNe, ↓reduceIte, reduceCtorEq, hlt] <;> try simp (disch := omega) only [wrap_of])) | (refine hn _ _ ?_; clear hn hp Kn Kp) | (refine hp _ _ _ ?_; clear hn hp Kn Kp) | (refine awp_cond rfl (fun hb => ?_) (fun hb => ?_) <;> (try simp only [decide_eq_true_eq, decide_eq_false_iff_not, Bool.not_eq_true', Bool.not_eq_false', Bool.true_eq_false, Bool.false_eq_true, beq_iff_eq, bne_iff_ne, bne_eq_false_iff_eq, beq_eq_false_iff_ne, gt_iff_lt, ge_iff_le, Int.reduceEq, Int.reduceNe, Int.reduceLT, Int.reduceLE, ne_eq, not_true_eq_false, not_false_eq_true] at hb)) | ((first | refine awg_split (fun hb => ?_) (fun hb => ?_)) <;> have hb0 := hb <;> (try simp only [decide_eq_true_eq, decide_eq_false_iff_not, Bool.not_eq_true', Bool.not_eq_false', Bool.true_eq_false, Bool.false_eq_true, beq_iff_eq, bne_iff_ne, bne_eq_false_iff_eq, beq_eq_false_iff_ne, gt_iff_lt, ge_iff_le, Int.reduceEq, Int.reduceNe, Int.reduceLT, Int.reduceLE, ne_eq, not_true_eq_false, not_false_eq_true] at hb0) <;> (try simp only [beq_true, beq_false, Bool.not_eq_true', Bool.not_eq_false'] at hb) <;> (simp only [go_sem, Nat.reduceAdd, Nat.reduceSub, Nat.reduceMul, Nat.reduceLeDiff, Nat.reduceLT, Nat.reduceEqDiff, Int.reduceToNat, Int.reduceAdd, Int.reduceMul, Int.reduceSub, Int.reduceLT, Int.reduceLE, Int.reduceEq, Int.reduceNeg, Int.reduceBEq, Int.reduceBNe, ↓reduceIte, reduceCtorEq, hlt, hb, hb0] <;> try simp (disch := omega) only [wrap_of])) | refine awp_skip ?_ | refine awp_ret ?_ | refine awp_exit ?_ | refine awp_label ?_ | refine awloop_step ?_ | fail)
      ((try simp only [go_sem, Nat.reduceAdd, Nat.reduceSub, Nat.reduceMul, Nat.reduceLeDiff, Nat.reduceLT, Nat.reduceEqDiff, Int.reduceToNat, Int.reduceAdd, Int.reduceMul, Int.reduceSub, Int.reduceLT, Int.reduceLE, Int.reduceEq, Int.reduceNeg, Int.reduceBEq, Int.reduceBNe, ↓reduceIte, reduceCtorEq]); (first | refine ⟨_, rfl, _, rfl, Fin.pure0 0 ?_⟩ | refine ⟨_, rfl, _, rfl, Fin.pure 1 ?_⟩); simp only [AV.low, List.map_cons, List.map_nil, aOne, aev, List.getElem?_cons_zero, List.getElem?_cons_succ, Option.getD_some, List.length_append, List.length_cons, List.length_nil, Nat.lt_irrefl, if_false]; try rfl)
      rw [h4]
    | cons k rest =>
      obtain ⟨hk, hlt, hd, hm⟩ := drop_cons hr
      rw [hr, sizeL] at h4
      have hz := size_bd k (b - n)
      repeat' (first | refine awp_seq ?_ | refine awp_block ?_ | refine awp_scope ?_ | ((first | refine awp_region_k fun Kn Kp hn hp => ?_ | (show AWE _ _ _ _ _ _ _ _ _; first | refine awe_intro (ih k hm _ _ (by omega) (by omega)) ?_)) <;> (simp only [go_sem, Nat.reduceAdd, Nat.reduceSub, Nat.reduceMul, Nat.reduceLeDiff, Nat.reduceLT, Nat.reduceEqDiff, Int.reduceToNat, Int.reduceAdd, Int.reduceMul, Int.reduceSub, Int.reduceLT, Int.reduceLE, Int.reduceEq, Int.reduceNeg, Int.reduceBEq, Int.reduceBNe, ↓reduceIte, reduceCtorEq, hlt, hk, encE_eq] <;> try simp (disch := omega) only [wrap_of])) | (refine hn _ _ ?_; clear hn hp Kn Kp) | (refine hp _ _ _ ?_; clear hn hp Kn Kp) | (refine awp_cond rfl (fun hb => ?_) (fun hb => ?_) <;> (try simp only [decide_eq_true_eq, decide_eq_false_iff_not, Bool.not_eq_true', Bool.not_eq_false', Bool.true_eq_false, Bool.false_eq_true, beq_iff_eq, bne_iff_ne, bne_eq_false_iff_eq, beq_eq_false_iff_ne, gt_iff_lt, ge_iff_le, Int.reduceEq, Int.reduceNe, Int.reduceLT, Int.reduceLE, ne_eq, not_true_eq_false, not_false_eq_true] at hb)) | ((first | refine awg_split (fun hb => ?_) (fun hb => ?_)) <;> have hb0 := hb <;> (try simp only [decide_eq_true_eq, decide_eq_false_iff_not, Bool.not_eq_true', Bool.not_eq_false', Bool.true_eq_false, Bool.false_eq_true, beq_iff_eq, bne_iff_ne, bne_eq_false_iff_eq, beq_eq_false_iff_ne, gt_iff_lt, ge_iff_le, Int.reduceEq, Int.reduceNe, Int.reduceLT, Int.reduceLE, ne_eq, not_true_eq_false, not_false_eq_true] at hb0) <;> (try simp only [beq_true, beq_false, Bool.not_eq_true', Bool.not_eq_false'] at hb) <;> (simp only [go_sem, Nat.reduceAdd, Nat.reduceSub, Nat.reduceMul, Nat.reduceLeDiff, Nat.reduceLT, Nat.reduceEqDiff, Int.reduceToNat, Int.reduceAdd, Int.reduceMul, Int.reduceSub, Int.reduceLT, Int.reduceLE, Int.reduceEq, Int.reduceNeg, Int.reduceBEq, Int.reduceBNe, ↓reduceIte, reduceCtorEq, hlt, hk, encE_eq, hb, hb0] <;> try simp (disch := omega) only [wrap_of])) | refine awp_skip ?_ | refine awp_ret ?_ | refine awp_exit ?_ | refine awp_label ?_ | refine awloop_step ?_ | fail)
      · refine ⟨(i + 1, n + size k (b - n)), by simp only; omega, ⟨by omega, by omega, by rw [hd]; rw [if_pos hb] at h4; exact h4⟩, ?_⟩
        (refine Wk.fgt ?_; simp only [Fgt, List.length_nil, List.set_cons_zero, List.set_cons_succ, Int.natCast_zero, Int.cast_ofNat_Int, Int.ofNat_eq_natCast, true_or, or_true, true_and, and_true, and_self, eq_self])
        simp [wrap_of (n := (i : Int) + 1) (by omega) (by omega)]
      · ((try simp only [go_sem, Nat.reduceAdd, Nat.reduceSub, Nat.reduceMul, Nat.reduceLeDiff, Nat.reduceLT, Nat.reduceEqDiff, Int.reduceToNat, Int.reduceAdd, Int.reduceMul, Int.reduceSub, Int.reduceLT, Int.reduceLE, Int.reduceEq, Int.reduceNeg, Int.reduceBEq, Int.reduceBNe, ↓reduceIte, reduceCtorEq]); (first | refine ⟨_, rfl, _, rfl, Fin.pure0 0 ?_⟩ | refine ⟨_, rfl, _, rfl, Fin.pure 1 ?_⟩); simp only [AV.low, List.map_cons, List.map_nil, aOne, aev, List.getElem?_cons_zero, List.getElem?_cons_succ, Option.getD_some, List.length_append, List.length_cons, List.length_nil, Nat.lt_irrefl, if_false]; try rfl)
        rw [if_neg hb] at h4
        rw [h4]
theorem count_run : ∀ (N : Nat) (l : List Ex), nodesL l ≤ N → nodesL l ≤ 1000000 → ∀ (b : Int) (H0 : List AObj), 0 ≤ b → b ≤ 1000000 →
    ARun Tryz.prog 106 [.rs 4 (l.map encE), .fn (.func 107) [] [], .i b] H0 (.ret (.i (cntEL l b 0)) H0) := by
  intro N
  induction N with
  | zero =>
    intro l hN _ b H0 hb1 hb2
    have hl : l = [] := by have := len_nodesL l; exact List.eq_nil_of_length_eq_zero (by omega)
    subst hl
    (refine ARun.intro Tryz.func106 rfl Tryz.call106 Tryz.ntmps106 Tryz.results106 ?_; simp only [List.length_cons, List.length_nil, List.length_map, Nat.reduceAdd, Nat.reduceSub, List.replicate_succ, List.replicate_zero, List.cons_append, List.nil_append])
    repeat' (first | refine awp_seq ?_ | refine awp_block ?_ | refine awp_scope ?_ | ((first | refine awp_region_k fun Kn Kp hn hp => ?_) <;> (simp only [go_sem, Nat.reduceAdd, Nat.reduceSub, Nat.reduceMul, Nat.reduceLeDiff, Nat.reduceLT, Nat.reduceEqDiff, Int.reduceToNat, Int.reduceAdd, Int.reduceMul, Int.reduceSub, Int.reduceLT, Int.reduceLE, Int.reduceEq, Int.reduceNeg, Int.reduceBEq, Int.reduceBNe, ↓reduceIte, reduceCtorEq] <;> try simp (disch := omega) only [wrap_of])) | (refine hn _ _ ?_; clear hn hp Kn Kp) | (refine hp _ _ _ ?_; clear hn hp Kn Kp) | (refine awp_cond rfl (fun hb => ?_) (fun hb => ?_) <;> (try simp only [decide_eq_true_eq, decide_eq_false_iff_not, Bool.not_eq_true', Bool.not_eq_false', Bool.true_eq_false, Bool.false_eq_true, beq_iff_eq, bne_iff_ne, bne_eq_false_iff_eq, beq_eq_false_iff_ne, gt_iff_lt, ge_iff_le, Int.reduceEq, Int.reduceNe, Int.reduceLT, Int.reduceLE, ne_eq, not_true_eq_false, not_false_eq_true] at hb)) | ((first | refine awg_split (fun hb => ?_) (fun hb => ?_)) <;> have hb0 := hb <;> (try simp only [decide_eq_true_eq, decide_eq_false_iff_not, Bool.not_eq_true', Bool.not_eq_false', Bool.true_eq_false, Bool.false_eq_true, beq_iff_eq, bne_iff_ne, bne_eq_false_iff_eq, beq_eq_false_iff_ne, gt_iff_lt, ge_iff_le, Int.reduceEq, Int.reduceNe, Int.reduceLT, Int.reduceLE, ne_eq, not_true_eq_false, not_false_eq_true] at hb0) <;> (try simp only [beq_true, beq_false, Bool.not_eq_true', Bool.not_eq_false'] at hb) <;> (simp only [go_sem, Nat.reduceAdd, Nat.reduceSub, Nat.reduceMul, Nat.reduceLeDiff, Nat.reduceLT, Nat.reduceEqDiff, Int.reduceToNat, Int.reduceAdd, Int.reduceMul, Int.reduceSub, Int.reduceLT, Int.reduceLE, Int.reduceEq, Int.reduceNeg, Int.reduceBEq, Int.reduceBNe, ↓reduceIte, reduceCtorEq, hb, hb0] <;> try simp (disch := omega) only [wrap_of])) | refine awp_skip ?_ | refine awp_ret ?_ | refine awp_exit ?_ | refine awp_label ?_ | refine awloop_step ?_ | fail)
    refine awp_loop 1 ?_
    unfold AWLoop
    repeat' (first | refine awp_seq ?_ | refine awp_block ?_ | refine awp_scope ?_ | ((first | refine awp_region_k fun Kn Kp hn hp => ?_) <;> (simp only [go_sem, Nat.reduceAdd, Nat.reduceSub, Nat.reduceMul, Nat.reduceLeDiff, Nat.reduceLT, Nat.reduceEqDiff, Int.reduceToNat, Int.reduceAdd, Int.reduceMul, Int.reduceSub, Int.reduceLT, Int.reduceLE, Int.reduceEq, Int.reduceNeg, Int.reduceBEq, Int.reduceBNe, ↓reduceIte, reduceCtorEq] <;> try simp (disch := omega) only [wrap_of])) | (refine hn _ _ ?_; clear hn hp Kn Kp) | (refine hp _ _ _ ?_; clear hn hp Kn Kp) | (refine awp_cond rfl (fun hb => ?_) (fun hb => ?_) <;> (try simp only [decide_eq_true_eq, decide_eq_false_iff_not, Bool.not_eq_true', Bool.not_eq_false', Bool.true_eq_false, Bool.false_eq_true, beq_iff_eq, bne_iff_ne, bne_eq_false_iff_eq, beq_eq_false_iff_ne, gt_iff_lt, ge_iff_le, Int.reduceEq, Int.reduceNe, Int.reduceLT, Int.reduceLE, ne_eq, not_true_eq_false, not_false_eq_true] at hb)) | ((first | refine awg_split (fun hb => ?_) (fun hb => ?_)) <;> have hb0 := hb <;> (try simp only [decide_eq_true_eq, decide_eq_false_iff_not, Bool.not_eq_true', Bool.not_eq_false', Bool.true_eq_false, Bool.false_eq_true, beq_iff_eq, bne_iff_ne, bne_eq_false_iff_eq, beq_eq_false_iff_ne, gt_iff_lt, ge_iff_le, Int.reduceEq, Int.reduceNe, Int.reduceLT, Int.reduceLE, ne_eq, not_true_eq_false, not_false_eq_true] at hb0) <;> (try simp only [beq_true, beq_false, Bool.not_eq_true', Bool.not_eq_false'] at hb) <;> (simp only [go_sem, Nat.reduceAdd, Nat.reduceSub, Nat.reduceMul, Nat.reduceLeDiff, Nat.reduceLT, Nat.reduceEqDiff, Int.reduceToNat, Int.reduceAdd, Int.reduceMul, Int.reduceSub, Int.reduceLT, Int.reduceLE, Int.reduceEq, Int.reduceNeg, Int.reduceBEq, Int.reduceBNe, ↓reduceIte, reduceCtorEq, hb, hb0] <;> try simp (disch := omega) only [wrap_of])) | refine awp_skip ?_ | refine awp_ret ?_ | refine awp_exit ?_ | refine awp_label ?_ | refine awloop_step ?_ | fail)
    ((try simp only [go_sem, Nat.reduceAdd, Nat.reduceSub, Nat.reduceMul, Nat.reduceLeDiff, Nat.reduceLT, Nat.reduceEqDiff, Int.reduceToNat, Int.reduceAdd, Int.reduceMul, Int.reduceSub, Int.reduceLT, Int.reduceLE, Int.reduceEq, Int.reduceNeg, Int.reduceBEq, Int.reduceBNe, ↓reduceIte, reduceCtorEq]); (first | refine ⟨_, rfl, _, rfl, Fin.pure0 0 ?_⟩ | refine ⟨_, rfl, _, rfl, Fin.pure 1 ?_⟩); simp only [AV.low, List.map_cons, List.map_nil, aOne, aev, List.getElem?_cons_zero, List.getElem?_cons_succ, Option.getD_some, List.length_append, List.length_cons, List.length_nil, Nat.lt_irrefl, if_false]; try rfl)
    all_goals simp [cntEL]
  | succ N ihN =>
    intro l hN hM b H0 hb1 hb2
    (refine ARun.intro Tryz.func106 rfl Tryz.call106 Tryz.ntmps106 Tryz.results106 ?_; simp only [List.length_cons, List.length_nil, List.length_map, Nat.reduceAdd, Nat.reduceSub, List.replicate_succ, List.replicate_zero, List.cons_append, List.nil_append])
    repeat' (first | refine awp_seq ?_ | refine awp_block ?_ | refine awp_scope ?_ | ((first | refine awp_region_k fun Kn Kp hn hp => ?_) <;> (simp only [go_sem, Nat.reduceAdd, Nat.reduceSub, Nat.reduceMul, Nat.reduceLeDiff, Nat.reduceLT, Nat.reduceEqDiff, Int.reduceToNat, Int.reduceAdd, Int.reduceMul, Int.reduceSub, Int.reduceLT, Int.reduceLE, Int.reduceEq, Int.reduceNeg, Int.reduceBEq, Int.reduceBNe, ↓reduceIte, reduceCtorEq] <;> try simp (disch := omega) only [wrap_of])) | (refine hn _ _ ?_; clear hn hp Kn Kp) | (refine hp _ _ _ ?_; clear hn hp Kn Kp) | (refine awp_cond rfl (fun hb => ?_) (fun hb => ?_) <;> (try simp only [decide_eq_true_eq, decide_eq_false_iff_not, Bool.not_eq_true', Bool.not_eq_false', Bool.true_eq_false, Bool.false_eq_true, beq_iff_eq, bne_iff_ne, bne_eq_false_iff_eq, beq_eq_false_iff_ne, gt_iff_lt, ge_iff_le, Int.reduceEq, Int.reduceNe, Int.reduceLT, Int.reduceLE, ne_eq, not_true_eq_false, not_false_eq_true] at hb)) | ((first | refine awg_split (fun hb => ?_) (fun hb => ?_)) <;> have hb0 := hb <;> (try simp only [decide_eq_true_eq, decide_eq_false_iff_not, Bool.not_eq_true', Bool.not_eq_false', Bool.true_eq_false, Bool.false_eq_true, beq_iff_eq, bne_iff_ne, bne_eq_false_iff_eq, beq_eq_false_iff_ne, gt_iff_lt, ge_iff_le, Int.reduceEq, Int.reduceNe, Int.reduceLT, Int.reduceLE, ne_eq, not_true_eq_false, not_false_eq_true] at hb0) <;> (try simp only [beq_true, beq_false, Bool.not_eq_true', Bool.not_eq_false'] at hb) <;> (simp only [go_sem, Nat.reduceAdd, Nat.reduceSub, Nat.reduceMul, Nat.reduceLeDiff, Nat.reduceLT, Nat.reduceEqDiff, Int.reduceToNat, Int.reduceAdd, Int.reduceMul, Int.reduceSub, Int.reduceLT, Int.reduceLE, Int.reduceEq, Int.reduceNeg, Int.reduceBEq, Int.reduceBNe, ↓reduceIte, reduceCtorEq, hb, hb0] <;> try simp (disch := omega) only [wrap_of])) | refine awp_skip ?_ | refine awp_ret ?_ | refine awp_exit ?_ | refine awp_label ?_ | refine awloop_step ?_ | fail)
    refine awp_loop_ind (σ := Nat × Int) (fun s => l.length - s.1) (fun s => 0 ≤ s.2 ∧ s.2 ≤ 1000000 ∧ cntEL (l.drop s.1) b s.2 = cntEL l b 0)
      (fun s => (.any :: (.fn (.func 107) [] []) :: .i b :: .any :: .any :: .any :: .any :: .i s.2 :: .any :: .any :: .rs 4 (l.map encE) :: .i l.length :: .i s.1 :: .any :: .any :: .any :: .any :: .any :: .any :: .any :: .any :: .any :: .any :: .any :: .any :: .any :: .any :: .any :: .any :: .any :: .any :: .any :: .any :: []))
      (fun s => H0) (0, 0) ⟨by simp, by simp, by simp⟩ (by (refine Wk.fgt ?_; simp only [Fgt, List.length_nil, List.set_cons_zero, List.set_cons_succ, Int.natCast_zero, Int.cast_ofNat_Int, Int.ofNat_eq_natCast, true_or, or_true, true_and, and_true, and_self, eq_self])) ?_
    rintro ⟨i, n⟩ ⟨h2, h3, h4⟩
    simp only at h2 h3 h4 ⊢
    have hlen := len_nodesL l
    cases hr : l.drop i with
    | nil =>
      have hlt := drop_nil hr
      rw [hr, cntEL] at h4
      repeat' (first | refine awp_seq ?_ | refine awp_block ?_ | refine awp_scope ?_ | ((first | refine awp_region_k fun Kn Kp hn hp => ?_) <;> (simp only [go_sem, Nat.reduceAdd, Nat.reduceSub, Nat.reduceMul, Nat.reduceLeDiff, Nat.reduceLT, Nat.reduceEqDiff, Int.reduceToNat, Int.reduceAdd, Int.reduceMul, Int.reduceSub, Int.reduceLT, Int.reduceLE, Int.reduceEq, Int.reduceNeg, Int.reduceBEq, Int.reduceBNe, ↓reduceIte, reduceCtorEq, hlt] <;> try simp (disch := omega) only [wrap_of])) | (refine hn _ _ ?_; clear hn hp Kn Kp) | (refine hp _ _ _ ?_; clear hn hp Kn Kp) | (refine awp_cond rfl (fun hb => ?_) (fun hb => ?_) <;> (try simp only [decide_eq_true_eq, decide_eq_false_iff_not, Bool.not_eq_true', Bool.not_eq_false', Bool.true_eq_false, Bool.false_eq_true, beq_iff_eq, bne_iff_ne, bne_eq_false_iff_eq, beq_eq_false_iff_ne, gt_iff_lt, ge_iff_le, Int.reduceEq, Int.reduceNe, Int.reduceLT, Int.reduceLE, ne_eq, not_true_eq_false, not_false_eq_true] at hb)) | ((first | refine awg_split (fun hb => ?_) (fun hb => ?_)) <;> have hb0 := hb <;> (try simp only [decide_eq_true_eq, decide_eq_false_iff_not, Bool.not_eq_true', Bool.not_eq_false', Bool.true_eq_false, Bool.false_eq_true, beq_iff_eq, bne_iff_ne, bne_eq_false_iff_eq, beq_eq_false_iff_ne, gt_iff_lt, ge_iff_le, Int.reduceEq, Int.reduceNe, Int.reduceLT, Int.reduceLE, ne_eq, not_true_eq_false, not_false_eq_true] at hb0) <;> (try simp only [beq_true, beq_false, Bool.not_eq_true', Bool.not_eq_false'] at hb) <;> (simp only [go_sem, Nat.reduceAdd, Nat.reduceSub, Nat.reduceMul, Nat.reduceLeDiff, Nat.reduceLT, Nat.reduceEqDiff, Int.reduceToNat, Int.reduceAdd, Int.reduceMul, Int.reduceSub, Int.reduceLT, Int.reduceLE, Int.reduceEq, Int.reduceNeg, Int.reduceBEq, Int.reduceBNe, ↓reduceIte, reduceCtorEq, hlt, hb, hb0] <;> try simp (disch := omega) only [wrap_of])) | refine awp_skip ?_ | refine awp_ret ?_ | refine awp_exit ?_ | refine awp_label ?_ | refine awloop_step ?_ | fail)
      ((try simp only [go_sem, Nat.reduceAdd, Nat.reduceSub, Nat.reduceMul, Nat.reduceLeDiff, Nat.reduceLT, Nat.reduceEqDiff, Int.reduceToNat, Int.reduceAdd, Int.reduceMul, Int.reduceSub, Int.reduceLT, Int.reduceLE, Int.reduceEq, Int.reduceNeg, Int.reduceBEq, Int.reduceBNe, ↓reduceIte, reduceCtorEq]); (first | refine ⟨_, rfl, _, rfl, Fin.pure0 0 ?_⟩ | refine ⟨_, rfl, _, rfl, Fin.pure 1 ?_⟩); simp only [AV.low, List.map_cons, List.map_nil, aOne, aev, List.getElem?_cons_zero, List.getElem?_cons_succ, Option.getD_some, List.length_append, List.length_cons, List.length_nil, Nat.lt_irrefl, if_false]; try rfl)
      rw [h4]
    | cons k rest =>
      obtain ⟨hk, hlt, hd, hm⟩ := drop_cons hr
      rw [hr, cntEL] at h4
      have hz := cntEL_bd k.kids (b - n) 0
      have hz2 := nodesL_mem hm
      rw [cntE_eq] at h4
      have hbd := cntEL_bd (l.drop (i + 1)) b (n + (1 + cntEL k.kids (b - n) 0))
      have hbd2 := cntEL_bd l b 0
      rw [hd] at hbd
      repeat' (first | refine awp_seq ?_ | refine awp_block ?_ | refine awp_scope ?_ | ((first | refine awp_region_k fun Kn Kp hn hp => ?_ | (show AWE _ _ _ _ _ _ _ _ _; first | refine awe_intro (parts_run k _) ?_ | refine awe_intro (ihN k.kids (by omega) (by omega) _ _ (by omega) (by omega)) ?_)) <;> (simp only [go_sem, Nat.reduceAdd, Nat.reduceSub, Nat.reduceMul, Nat.reduceLeDiff, Nat.reduceLT, Nat.reduceEqDiff, Int.reduceToNat, Int.reduceAdd, Int.reduceMul, Int.reduceSub, Int.reduceLT, Int.reduceLE, Int.reduceEq, Int.reduceNeg, Int.reduceBEq, Int.reduceBNe, ↓reduceIte, reduceCtorEq, hlt, hk, encE_eq] <;> try simp (disch := omega) only [wrap_of])) | (refine hn _ _ ?_; clear hn hp Kn Kp) | (refine hp _ _ _ ?_; clear hn hp Kn Kp) | (refine awp_cond rfl (fun hb => ?_) (fun hb => ?_) <;> (try simp only [decide_eq_true_eq, decide_eq_false_iff_not, Bool.not_eq_true', Bool.not_eq_false', Bool.true_eq_false, Bool.false_eq_true, beq_iff_eq, bne_iff_ne, bne_eq_false_iff_eq, beq_eq_false_iff_ne, gt_iff_lt, ge_iff_le, Int.reduceEq, Int.reduceNe, Int.reduceLT, Int.reduceLE, ne_eq, not_true_eq_false, not_false_eq_true] at hb)) | ((first | refine awg_split (fun hb => ?_) (fun hb => ?_)) <;> have hb0 := hb <;> (try simp only [decide_eq_true_eq, decide_eq_false_iff_not, Bool.not_eq_true', Bool.not_eq_false', Bool.true_eq_false, Bool.false_eq_true, beq_iff_eq, bne_iff_ne, bne_eq_false_iff_eq, beq_eq_false_iff_ne, gt_iff_lt, ge_iff_le, Int.reduceEq, Int.reduceNe, Int.reduceLT, Int.reduceLE, ne_eq, not_true_eq_false, not_false_eq_true] at hb0) <;> (try simp only [beq_true, beq_false, Bool.not_eq_true', Bool.not_eq_false'] at hb) <;> (simp only [go_sem, Nat.reduceAdd, Nat.reduceSub, Nat.reduceMul, Nat.reduceLeDiff, Nat.reduceLT, Nat.reduceEqDiff, Int.reduceToNat, Int.reduceAdd, Int.reduceMul, Int.reduceSub, Int.reduceLT, Int.reduceLE, Int.reduceEq, Int.reduceNeg, Int.reduceBEq, Int.reduceBNe, ↓reduceIte, reduceCtorEq, hlt, hk, encE_eq, hb, hb0] <;> try simp (disch := omega) only [wrap_of])) | refine awp_skip ?_ | refine awp_ret ?_ | refine awp_exit ?_ | refine awp_label ?_ | refine awloop_step ?_ | fail)
      · ((try simp only [go_sem, Nat.reduceAdd, Nat.reduceSub, Nat.reduceMul, Nat.reduceLeDiff, Nat.reduceLT, Nat.reduceEqDiff, Int.reduceToNat, Int.reduceAdd, Int.reduceMul, Int.reduceSub, Int.reduceLT, Int.reduceLE, Int.reduceEq, Int.reduceNeg, Int.reduceBEq, Int.reduceBNe, ↓reduceIte, reduceCtorEq]); (first | refine ⟨_, rfl, _, rfl, Fin.pure0 0 ?_⟩ | refine ⟨_, rfl, _, rfl, Fin.pure 1 ?_⟩); simp only [AV.low, List.map_cons, List.map_nil, aOne, aev, List.getElem?_cons_zero, List.getElem?_cons_succ, Option.getD_some, List.length_append, List.length_cons, List.length_nil, Nat.lt_irrefl, if_false]; try rfl)
        rw [if_pos hb] at h4
        rw [h4]
      · rw [if_neg hb] at h4
        refine ⟨(i + 1, n + (1 + cntEL k.kids (b - n) 0)), by simp only; omega, ⟨by omega, by omega, by simp only; rw [hd]; exact h4⟩, ?_⟩
        (first | (refine Wk.drop0 1 ?_; simp only [List.map_cons, List.map_nil, AV.low, List.length_append, List.length_cons, List.length_nil, Nat.lt_irrefl, if_false, Fgt, Int.natCast_zero, Int.cast_ofNat_Int, Int.ofNat_eq_natCast, true_or, or_true, true_and, and_true, and_self, eq_self]) | (refine Wk.fgt ?_; simp only [Fgt, List.length_nil, List.set_cons_zero, List.set_cons_succ, Int.natCast_zero, Int.cast_ofNat_Int, Int.ofNat_eq_natCast, true_or, or_true, true_and, and_true, and_self, eq_self]))
        simp
theorem dr91_3_U3 : Drawn Tryz.prog 3 (regOps 3 ((Tryz.f91.body).getD .skip)) [0, 3, 6] [] [.eff 0, .win [0, 1], .win [0, 1], .eff 1, .win [0, 1, 2], .win [0, 1, 2], .eff 2, .win [3]] 3 [] := ⟨rfl, by as_aux_lemma => kernel_rfl⟩
theorem inner_run (s : St) (H0 : List AObj) (hl : (innerL s).length ≤ 1000000) : ARun Tryz.prog 91 [.ag (cS s)] H0 (.ret (.rs 13 ((innerL s).map encS)) H0) := by
  unfold innerL at hl ⊢
  by_cases hk : s.kind = 2
  · rw [if_pos hk, List.length_append] at hl
    (refine ARun.intro Tryz.func91 rfl Tryz.call91 Tryz.ntmps91 Tryz.results91 ?_; simp only [List.length_cons, List.length_nil, List.length_map, Nat.reduceAdd, Nat.reduceSub, List.replicate_succ, List.replicate_zero, List.cons_append, List.nil_append])
    have h1 : s.thn.length * 168 ≤ 140737488355328 := by omega
    have h2 : s.thn.length ≤ 9223372036854775807 := by omega
    have h3 : (s.thn.length + s.els.length) * 168 ≤ 140737488355328 := by omega
    have h4 : s.thn.length + s.els.length ≤ 9223372036854775807 := by omega
    (have rr1 := dr91_3_U3; have ww1 := hk; have ww2 := h1; have ww3 := h2; have ww4 := h3; have ww5 := h4; refine wk ?_; clear rr1 ww1 ww2 ww3 ww4 ww5; (repeat' first | exact True.intro | refine Lf.mk ?_ ?_); all_goals intro hP)
    (refine resX ?_; try exact True.intro)
    rw [if_pos hk]
    have := @low_os_pvs _ (H0 ++ [.cells 50 ((cS s).map AV.pv), .arr 50 13 (((s.thn ++ s.els).map encS).map fun r => r.map AV.pv)]) H0.length 0 (H0.length + 1) 50 13 ((s.thn ++ s.els).map encS) (by rw [getOk]; rfl) (by omega)
    simpa [AV.low, hk] using this.symm
  · (refine ARun.intro Tryz.func91 rfl Tryz.call91 Tryz.ntmps91 Tryz.results91 ?_; simp only [List.length_cons, List.length_nil, List.length_map, Nat.reduceAdd, Nat.reduceSub, List.replicate_succ, List.replicate_zero, List.cons_append, List.nil_append])
    have hk' : (s.kind != 2) = true := by simpa using hk
    (have rr1 := dr91_3_U3; have ww1 := hk'; have ww2 := hk; refine wk ?_; clear rr1 ww1 ww2; (repeat' first | exact True.intro | refine Lf.mk ?_ ?_); all_goals intro hP)
    refine ⟨_, rfl, _, rfl, Fin.pureC 1 ?_⟩
    rw [if_neg hk]
    simp only [AV.low, aOne, aev, List.getElem?_cons_zero, List.getElem?_cons_succ, Option.getD_some]
    exact Cv.nil (Nat.succ_pos 12)
theorem countS_run : ∀ (N : Nat) (l : List St), manyL l ≤ N → manyL l ≤ 1000000 → ∀ (b : Int) (H0 : List AObj), 0 ≤ b → b ≤ 1000000 →
    ARun Tryz.prog 90 [.rs 13 (l.map encS), .fn (.func 91) [] [], .i b] H0 (.ret (.i (cntSL l b 0)) H0) := by
  intro N
  induction N with
  | zero =>
    intro l hN _ b H0 hb1 hb2
    have hl : l = [] := by have := len_manyL l; exact List.eq_nil_of_length_eq_zero (by omega)
    subst hl
    (refine ARun.intro Tryz.func90 rfl Tryz.call90 Tryz.ntmps90 Tryz.results90 ?_; simp only [List.length_cons, List.length_nil, List.length_map, Nat.reduceAdd, Nat.reduceSub, List.replicate_succ, List.replicate_zero, List.cons_append, List.nil_append])
    (refine wk ?_; (repeat' first | exact True.intro | refine Lf.mk ?_ ?_); all_goals intro hP)
    refine awp_loop 1 ?_
    unfold AWLoop
    (refine wk ?_; (repeat' first | exact True.intro | refine Lf.mk ?_ ?_); all_goals intro hP)
    (refine resX ?_; try exact True.intro)
    all_goals simp [cntSL]
  | succ N ihN =>
    intro l hN hM b H0 hb1 hb2
    (refine ARun.intro Tryz.func90 rfl Tryz.call90 Tryz.ntmps90 Tryz.results90 ?_; simp only [List.length_cons, List.length_nil, List.length_map, Nat.reduceAdd, Nat.reduceSub, List.replicate_succ, List.replicate_zero, List.cons_append, List.nil_append])
    (refine wk ?_; (repeat' first | exact True.intro | refine Lf.mk ?_ ?_); all_goals intro hP)
    refine awp_loop_ind (σ := Nat × Int) (fun s => l.length - s.1) (fun s => 0 ≤ s.2 ∧ s.2 ≤ 1000000 ∧ cntSL (l.drop s.1) b s.2 = cntSL l b 0)
      (fun s => (.any :: (.fn (.func 91) [] []) :: .i b :: .any :: .any :: .any :: .any :: .i s.2 :: .any :: .any :: .rs 13 (l.map encS) :: .i l.length :: .i s.1 :: .any :: .any :: .any :: .any :: .any :: .any :: .any :: .any :: .any :: .any :: .any :: .any :: .any :: .any :: .any :: .any :: .any :: .any :: .any :: .any :: []))
      (fun s => H0) (0, 0) ⟨by simp, by simp, by simp⟩ (by (refine fgtX ?_; try exact True.intro)) ?_
    rintro ⟨i, n⟩ ⟨h2, h3, h4⟩
    simp only at h2 h3 h4 ⊢
    have hlen := len_manyL l
    cases hr : l.drop i with
    | nil =>
      have hlt := drop_nil hr
      rw [hr, cntSL] at h4
      (have ww1 := hlt; refine wk ?_; clear ww1; (repeat' first | exact True.intro | refine Lf.mk ?_ ?_); all_goals intro hP)
      (refine resX ?_; try exact True.intro)
      rw [h4]
    | cons k rest =>
      obtain ⟨hk, hlt, hd, hm⟩ := drop_cons hr
      rw [hr, cntSL] at h4
      have hz := cntSL_bd (innerL k) (b - n) 0
      have hz2 := manyL_mem hm
      rw [cntS_eq] at h4
      have hbd := cntSL_bd (l.drop (i + 1)) b (n + (1 + cntSL (innerL k) (b - n) 0))
      have hbd2 := cntSL_bd l b 0
      rw [hd] at hbd
      have hlk := len_manyL (innerL k)
      repeat' (first | refine awp_seq ?_ | refine awp_block ?_ | refine awp_scope ?_ | ((first | refine awp_region_k fun Kn Kp hn hp => ?_ | (show AWE _ _ _ _ _ _ _ _ _; first | refine awe_intro (inner_run k _ (by omega)) ?_ | refine awe_intro (ihN (innerL k) (by omega) (by omega) _ _ (by omega) (by omega)) ?_)) <;> (simp only [go_sem, Nat.reduceAdd, Nat.reduceSub, Nat.reduceMul, Nat.reduceLeDiff, Nat.reduceLT, Nat.reduceEqDiff, Int.reduceToNat, Int.reduceAdd, Int.reduceMul, Int.reduceSub, Int.reduceLT, Int.reduceLE, Int.reduceEq, Int.reduceNeg, Int.reduceBEq, Int.reduceBNe, ↓reduceIte, reduceCtorEq, hlt, hk, encS_eq] <;> try simp (disch := omega) only [wrap_of])) | (refine hn _ _ ?_; clear hn hp Kn Kp) | (refine hp _ _ _ ?_; clear hn hp Kn Kp) | (refine awp_cond rfl (fun hb => ?_) (fun hb => ?_) <;> (try simp only [decide_eq_true_eq, decide_eq_false_iff_not, Bool.not_eq_true', Bool.not_eq_false', Bool.true_eq_false, Bool.false_eq_true, beq_iff_eq, bne_iff_ne, bne_eq_false_iff_eq, beq_eq_false_iff_ne, gt_iff_lt, ge_iff_le, Int.reduceEq, Int.reduceNe, Int.reduceLT, Int.reduceLE, ne_eq, not_true_eq_false, not_false_eq_true] at hb)) | ((first | refine awg_split (fun hb => ?_) (fun hb => ?_)) <;> have hb0 := hb <;> (try simp only [decide_eq_true_eq, decide_eq_false_iff_not, Bool.not_eq_true', Bool.not_eq_false', Bool.true_eq_false, Bool.false_eq_true, beq_iff_eq, bne_iff_ne, bne_eq_false_iff_eq, beq_eq_false_iff_ne, gt_iff_lt, ge_iff_le, Int.reduceEq, Int.reduceNe, Int.reduceLT, Int.reduceLE, ne_eq, not_true_eq_false, not_false_eq_true] at hb0) <;> (try simp only [beq_true, beq_false, Bool.not_eq_true', Bool.not_eq_false'] at hb) <;> (simp only [go_sem, Nat.reduceAdd, Nat.reduceSub, Nat.reduceMul, Nat.reduceLeDiff, Nat.reduceLT, Nat.reduceEqDiff, Int.reduceToNat, Int.reduceAdd, Int.reduceMul, Int.reduceSub, Int.reduceLT, Int.reduceLE, Int.reduceEq, Int.reduceNeg, Int.reduceBEq, Int.reduceBNe, ↓reduceIte, reduceCtorEq, hlt, hk, encS_eq, hb, hb0] <;> try simp (disch := omega) only [wrap_of])) | refine awp_skip ?_ | refine awp_ret ?_ | refine awp_exit ?_ | refine awp_label ?_ | refine awloop_step ?_ | fail)
      · (refine resX ?_; try exact True.intro)
        rw [if_pos hb] at h4
        rw [h4]
      · rw [if_neg hb] at h4
        refine ⟨(i + 1, n + (1 + cntSL (innerL k) (b - n) 0)), by simp only; omega, ⟨by omega, by omega, by simp only; rw [hd]; exact h4⟩, ?_⟩
        (refine dropX ?_; try exact True.intro)
        simp
end Go.Proofs.YtpfjlifneibhfaaGreat.Y
