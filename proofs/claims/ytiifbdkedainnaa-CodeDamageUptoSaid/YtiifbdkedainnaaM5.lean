/- Part 5 of the proofs of seat Ytiifbdkedainnaa: what the texts behind it lean on (abstract memory, walks of functions, plain laws). -/
import Derived.Test.YtiifbdkedainnaaM4
import Derived.Test.YtiifbdkedainnaaRows

set_option maxHeartbeats 8000000
set_option maxRecDepth 100000
set_option linter.unusedVariables false
set_option linter.unusedSimpArgs false
set_option linter.unusedSectionVars false
namespace Go.Proofs.Ytiifbdkedainnaa.Y
open Go.Proofs.Ytiifbdkedainnaa.AL Go.Proofs Go
attribute [local irreducible] AWP AWL AWG AWR AWE AWX AWO AWSeq AWSG AWSR AWSO AWSE AWSF GoodP OGW OGR OGE OGX PGW PGR PGE Wk AWLoop AWPD AWLD
theorem dr29_14_X11a : Drawn Try.prog 14 (regOps 14 ((Try.f29.body).getD .skip)) [11] [] [.win [0], .win [0], .win [0], .win [0], .win [0], .win [0], .win [0], .win [0], .win [0], .win [0], .win [0], .eff 0, .win [1], .win [1], .win [1], .win [1], .win [1], .win [1], .win [1], .win [1], .win [1], .win [1], .win [1], .win [1], .win [1], .win [1]] 1 [] := ⟨rfl, by as_aux_lemma => kernel_rfl⟩
theorem dr29_16_X11a : Drawn Try.prog 16 (regOps 16 ((Try.f29.body).getD .skip)) [] [] [.win [0], .win [0], .win [0], .win [0], .win [0], .win [0], .win [0], .win [0], .win [0], .win [0], .win [0], .win [0], .win [0], .win [0], .win [0], .win [0], .win [0]] 0 [] := ⟨rfl, by as_aux_lemma => kernel_rfl⟩

def effC : List AV := effP.map AV.pv
theorem effC_len : effC.length = 28 := rfl
theorem effC_under {t : TypeId} {m : Nat} : (AObj.cells t effC).under m := by
  intro c hc
  obtain ⟨p, _, rfl⟩ := List.mem_map.1 hc
  simp only [AV.under]
theorem hdr_under {t : TypeId} {n k : Nat} : (AObj.cells t [.os n 0 k k]).under (n + 3) := by
  intro c hc
  rw [List.mem_singleton] at hc
  subst hc
  simp only [AV.under]; omega
theorem effC_get {op : Int} (h : 1 ≤ op ∧ op ≤ 13) : effC[op.toNat * 2]? = some (.i (takes op)) ∧ effC[op.toNat * 2 + 1]? = some (.i (puts op)) := by
  obtain ⟨n, rfl⟩ : ∃ n : Nat, op = n := ⟨op.toNat, by omega⟩
  have h1 : 1 ≤ n := by omega
  have h2 : n ≤ 13 := by omega
  have key : ∀ n : Fin 14, 1 ≤ n.val → effC[n.val * 2]? = some (.i (takes n.val)) ∧ effC[n.val * 2 + 1]? = some (.i (puts n.val)) := by
    intro n hn
    match n, hn with
    | ⟨1, _⟩, _ => exact ⟨rfl, rfl⟩
    | ⟨2, _⟩, _ => exact ⟨rfl, rfl⟩
    | ⟨3, _⟩, _ => exact ⟨rfl, rfl⟩
    | ⟨4, _⟩, _ => exact ⟨rfl, rfl⟩
    | ⟨5, _⟩, _ => exact ⟨rfl, rfl⟩
    | ⟨6, _⟩, _ => exact ⟨rfl, rfl⟩
    | ⟨7, _⟩, _ => exact ⟨rfl, rfl⟩
    | ⟨8, _⟩, _ => exact ⟨rfl, rfl⟩
    | ⟨9, _⟩, _ => exact ⟨rfl, rfl⟩
    | ⟨10, _⟩, _ => exact ⟨rfl, rfl⟩
    | ⟨11, _⟩, _ => exact ⟨rfl, rfl⟩
    | ⟨12, _⟩, _ => exact ⟨rfl, rfl⟩
    | ⟨13, _⟩, _ => exact ⟨rfl, rfl⟩
  exact key ⟨n, by omega⟩ h1
theorem reach_runN (hs : List Int) (n : Nat) (hn' : hs.length = n) (nn : Int) (hnn : 0 ≤ nn ∧ nn < n) (h : Int) (t : TypeId) (cid rid : Nat) (H0 : List AObj) (hc : H0[cid]? = some (.cells t [.os rid 0 n n])) (hr : H0[rid]? = some (rW hs)) (hne : rid ≠ cid) :
    ARun Try.prog 49 [.i nn, .i h, .p cid 0] H0 (.ret (.b (hs.getD nn.toNat 0 == -1 || hs.getD nn.toNat 0 == h)) (H0.set rid (rW (hs.set nn.toNat h)))) := by
  obtain ⟨a, rfl⟩ : ∃ a : Nat, nn = a := ⟨nn.toNat, by omega⟩
  rw [Int.toNat_natCast]
  have ha : a < hs.length := by omega
  have := reach_run hs n hn' a (hs.getD a 0) h (by rw [List.getD_eq_getElem?_getD, List.getElem?_eq_getElem ha]; rfl) t cid rid H0 hc hr hne
  exact this
theorem chandler_run (l : List Ins) (vars : Int) (hv : 0 ≤ vars ∧ vars ≤ 12) (hl : l.length ≤ 2000000) (H0 : List AObj) :
    ARun Try.prog 29 [.rs 3 (l.map encI), .i vars] H0 (.ret (.b (verH l vars)) H0) := by
  by_cases h4 : (4000 : Int) < l.length
  · have h4' : ¬ l.length ≤ 4000 := by omega
    (refine ARun.intro Try.func29 rfl Try.call29 Try.ntmps29 Try.results29 ?_; simp only [List.length_cons, List.length_nil, List.length_map, Nat.reduceAdd, Nat.reduceSub, List.replicate_succ, List.replicate_zero, List.cons_append, List.nil_append])
    (have rr1 := dr29_14_X11a; have rr2 := dr29_16_X11a; have ww1 := h4; refine wk ?_; clear rr1 rr2 ww1; (repeat' first | exact True.intro | refine Lf.mk ?_ ?_); all_goals intro hP)
    (refine resX ?_; try exact True.intro)
    simp [verH, h4']
  · have h4' : l.length ≤ 4000 := by omega
    have w1 : IntKind.i64.wrap ((l.length : Int) + 1) = ((l.length + 1 : Nat) : Int) := by rw [wrap_of (by omega) (by omega)]; omega
    have hk1 : ((l.length + 1 : Nat) : Int) ≤ 281474976710656 := by omega
    have hk2 : 8 * ((l.length + 1 : Nat) : Int) ≤ 281474976710656 := by omega
    have heff := fun H0 => effects_run H0
    (refine ARun.intro Try.func29 rfl Try.call29 Try.ntmps29 Try.results29 ?_; simp only [List.length_cons, List.length_nil, List.length_map, Nat.reduceAdd, Nat.reduceSub, List.replicate_succ, List.replicate_zero, List.cons_append, List.nil_append])
    (have ww1 := h4; refine wk ?_; clear ww1; (repeat' first | exact True.intro | refine Lf.mk ?_ ?_); all_goals intro hP)
    refine awp_drawnO_c (id := 3) [4, 5, 6, 7, 8] [([4, 5, 6, 7, 8], [0, 1, 2, 3, 4, 5, 6, 7, 8], [.win [0, 1, 2, 3], .win [0], .win [0], .win [0], .eff 0, .eff 1, .eff 2, .eff 3, .eff 4]), ([4, 6, 5, 7, 8], [0, 1, 2, 3, 4, 6, 5, 7, 8], [.win [0, 1, 2, 3], .win [0], .win [0], .win [0], .eff 0, .eff 2, .eff 1, .eff 3, .eff 4]), ([5, 4, 6, 7, 8], [0, 1, 2, 3, 5, 4, 6, 7, 8], [.win [0, 1, 2, 3], .win [0, 1], .win [0, 1], .win [0, 1], .eff 1, .eff 0, .eff 2, .eff 3, .eff 4]), ([5, 6, 4, 7, 8], [0, 1, 2, 3, 5, 6, 4, 7, 8], [.win [0, 1, 2, 3], .win [0, 1, 2], .win [0, 1, 2], .win [0, 1, 2], .eff 2, .eff 0, .eff 1, .eff 3, .eff 4]), ([5, 6, 7, 4, 8], [0, 1, 2, 3, 5, 6, 7, 4, 8], [.win [0, 1, 2], .win [0, 1, 2, 3], .win [0, 1, 2, 3], .win [0, 1, 2, 3], .eff 3, .eff 0, .eff 1, .eff 2, .eff 4]), ([6, 4, 5, 7, 8], [0, 1, 2, 3, 6, 4, 5, 7, 8], [.win [0, 1, 2, 3], .win [0, 1], .win [0, 1], .win [0, 1], .eff 1, .eff 2, .eff 0, .eff 3, .eff 4]), ([6, 5, 4, 7, 8], [0, 1, 2, 3, 6, 5, 4, 7, 8], [.win [0, 1, 2, 3], .win [0, 1, 2], .win [0, 1, 2], .win [0, 1, 2], .eff 2, .eff 1, .eff 0, .eff 3, .eff 4]), ([6, 5, 7, 4, 8], [0, 1, 2, 3, 6, 5, 7, 4, 8], [.win [0, 1, 2], .win [0, 1, 2, 3], .win [0, 1, 2, 3], .win [0, 1, 2, 3], .eff 3, .eff 1, .eff 0, .eff 2, .eff 4])] 5 rfl (by as_aux_lemma => kernel_rfl) ((.rs 3 (l.map encI) :: .i vars :: .any :: .any :: .any :: .p (H0.length + 1) 0 :: .p (H0.length + 2) 0 :: .any :: .any :: .any :: .any :: .any :: .any :: .any :: .any :: .any :: .any :: .any :: .any :: .any :: .any :: .any :: .any :: .any :: .any :: .any :: .any :: .any :: .any :: .any :: .any :: .any :: .any :: .any :: .any :: .any :: .any :: .any :: .any :: .any :: .any :: .any :: .any :: .any :: .any :: .any :: .any :: .any :: .any :: .any :: .any :: .any :: .any :: .any :: .any :: .any :: .any :: .any :: .any :: .any :: .any :: .any :: .any :: .any :: .any :: .any :: .any :: .any :: .any :: .any :: .any :: .any :: .any :: .any :: .any :: .any :: .any :: .any :: .any :: .any :: .any :: .any :: .any :: .any :: .any :: .any :: .any :: .any :: .any :: .any :: .any :: .any :: .any :: .any :: .any :: .any :: .any :: .any :: .any :: .any :: .any :: .any :: .any :: .any :: .any :: .any :: .any :: .any :: .any :: .any :: .any :: .any :: .any :: .any :: []))
      (H0 ++ [rW (List.replicate (l.length + 1) 0), .cells 86 effC, .cells 88 [.os H0.length 0 (l.length + 1) (l.length + 1)]]) (fun tm H wk h => by simp only [AEx.thn] at h ⊢; exact awp_wk wk h) ?_ (fun Kp W hW => ?_)
    · simp only [AEx.thn]
      (have ww1 := h4; refine wkO ?_; clear ww1; (repeat' first | exact True.intro | refine Lf.mk ?_ ?_); all_goals intro hP)
      refine awp_loop_ind (σ := Nat) (fun k => l.length + 1 - k) (fun k => k ≤ l.length + 1)
        (fun k => (.rs 3 (l.map encI) :: .i vars :: .any :: .any :: .any :: .p (H0.length + 1) 0 :: .p (H0.length + 2) 0 :: .any :: .any :: .any :: .any :: .any :: .any :: .any :: .any :: .any :: .any :: .any :: .any :: .any :: .any :: .i (l.length + 1 : Nat) :: .i k :: .any :: .any :: .any :: .any :: .any :: .any :: .any :: .any :: .any :: .any :: .any :: .any :: .any :: .any :: .any :: .any :: .any :: .any :: .any :: .any :: .any :: .any :: .any :: .any :: .any :: .any :: .any :: .any :: .any :: .any :: .any :: .any :: .any :: .any :: .any :: .any :: .any :: .any :: .any :: .any :: .any :: .any :: .any :: .any :: .any :: .any :: .any :: .any :: .any :: .any :: .any :: .any :: .any :: .any :: .any :: .any :: .any :: .any :: .any :: .any :: .any :: .any :: .any :: .any :: .any :: .any :: .any :: .any :: .any :: .any :: .any :: .any :: .any :: .any :: .any :: .any :: .any :: .any :: .any :: .any :: .any :: .any :: .any :: .any :: .any :: .any :: .any :: .any :: .any :: .any :: .any :: []))
        (fun k => H0 ++ [rW ((List.replicate (l.length + 1) (-1)).take k ++ (List.replicate (l.length + 1) 0).drop k), .cells 86 effC, .cells 88 [.os H0.length 0 (l.length + 1) (l.length + 1)]]) 0 (Nat.zero_le _) ?_ ?_
      · refine Wk.fgtE ?_ (by (refine fgX ?_; try exact True.intro))
        simp [rW, List.replicate_succ]
      · rintro k k1
        by_cases hk : k = l.length + 1
        · subst hk
          have etake : (List.replicate (l.length + 1) (-1 : Int)).take (l.length + 1) ++ (List.replicate (l.length + 1) (0 : Int)).drop (l.length + 1) = (-1) :: List.replicate l.length (-1) := by simp [List.replicate_succ]
          rw [etake]
          (have ww1 := etake; refine wkO ?_; clear ww1; (repeat' first | exact True.intro | refine Lf.mk ?_ ?_); all_goals intro hP)
          refine awp_loop_ind (σ := Nat × List Int) (fun s => l.length - s.1)
            (fun s => s.1 ≤ l.length ∧ s.2.length = l.length + 1 ∧ HsOk s.2 ∧ hLoop l.length vars l 0 (0 :: List.replicate l.length (-1)) = hLoop l.length vars (l.drop s.1) s.1 s.2)
            (fun s => (.rs 3 (l.map encI) :: .i vars :: .any :: .any :: .any :: .p (H0.length + 1) 0 :: .p (H0.length + 2) 0 :: .any :: (.fn (.func 49) [] [.p (H0.length + 2) 0]) :: .any :: .any :: .any :: .any :: .any :: .any :: .any :: .any :: .any :: .any :: .any :: .any :: .any :: .any :: .any :: .any :: .any :: .any :: .any :: .any :: .any :: .any :: .any :: .rs 3 (l.map encI) :: .i l.length :: .i s.1 :: .any :: .any :: .any :: .any :: .any :: .any :: .any :: .any :: .any :: .any :: .any :: .any :: .any :: .any :: .any :: .any :: .any :: .any :: .any :: .any :: .any :: .any :: .any :: .any :: .any :: .any :: .any :: .any :: .any :: .any :: .any :: .any :: .any :: .any :: .any :: .any :: .any :: .any :: .any :: .any :: .any :: .any :: .any :: .any :: .any :: .any :: .any :: .any :: .any :: .any :: .any :: .any :: .any :: .any :: .any :: .any :: .any :: .any :: .any :: .any :: .any :: .any :: .any :: .any :: .any :: .any :: .any :: .any :: .any :: .any :: .any :: .any :: .any :: .any :: .any :: .any :: .any :: .any :: .any :: []))
            (fun s => H0 ++ [rW s.2, .cells 86 effC, .cells 88 [.os H0.length 0 (l.length + 1) (l.length + 1)]]) (0, 0 :: List.replicate l.length (-1)) ⟨Nat.zero_le _, by simp, HsOk.start _, by simp⟩ ?_ ?_
          · refine Wk.fgtE ?_ (by (refine fgX ?_; try exact True.intro))
            simp [rW, List.take_of_length_le, List.replicate_succ]
          · rintro ⟨i, hs⟩ ⟨h1, h2, h3, h5⟩
            simp only at h1 h2 h3 h5 ⊢
            obtain ⟨y, hy⟩ := get_some (hs := hs) (i := i) (by omega)
            have yb := h3.get hy
            have hy' : (hs.map fun v => [AV.i v])[i]? = some [AV.i y] := by rw [List.getElem?_map, hy]; rfl
            have hil : (i : Int) < (l.length + 1 : Nat) := by omega
            cases hr : l.drop i with
            | nil =>
              have hlt := drop_nil hr
              obtain rfl : i = l.length := by have := List.drop_eq_nil_iff.1 hr; omega
              rw [hr, hLoop_nil hy] at h5
              have hverd : verH l vars = decide (y = 0) := by rw [← h5]; exact verH_eq h4'
              rw [hverd]
              (have rr1 := dr29_14_X11a; have rr2 := dr29_16_X11a; have ww1 := @effC_len; have ww2 := hlt; have ww3 := h2; have ww4 := hil; have ww5 := hy'; have ww6 := @row_set; refine wkO ?_; clear rr1 rr2 ww1 ww2 ww3 ww4 ww5 ww6; (repeat' first | exact True.intro | refine Lf.mk ?_ ?_); all_goals intro hP)
              (refine resX ?_; try exact True.intro)
            | cons x rest =>
              obtain ⟨hx, hlt, hd, hm⟩ := drop_cons hr
              rw [hr, hLoop_cons] at h5
              obtain ⟨op, nn, rel⟩ := x
              have hx' : (l.map encI)[i]? = some (cI ⟨op, nn, rel⟩) := by rw [List.getElem?_map, hx]; rfl
              have hverd := verH_eq (vars := vars) h4'
              rw [h5] at hverd
              rw [hverd]
              have hfit := fun H0 => cfits_run op nn rel i l.length vars (by omega) hv H0
              have hw1 : IntKind.i64.wrap ((i : Int) + 1) = ((i + 1 : Nat) : Int) := by rw [wrap_of (by omega) (by omega)]; omega
              cases hok : insOk ⟨op, nn, rel⟩ i l.length vars with
              | false =>
                rw [hStep_bad hy (.inr (.inl hok))]
                simp only [hok] at hfit
                (have rr1 := dr29_14_X11a; have rr2 := dr29_16_X11a; have ww1 := @effC_len; have ww2 := hlt; have ww3 := h2; have ww4 := hil; have ww5 := hx'; have ww6 := hy'; have ww7 := @row_set; have cc1 := fun z1 => hfit z1; refine wkO ?_; clear rr1 rr2 ww1 ww2 ww3 ww4 ww5 ww6 ww7 cc1; (repeat' first | exact True.intro | refine Lf.mk ?_ ?_); all_goals intro hP)
                all_goals (refine resX ?_; try exact True.intro)
              | true =>
                simp only [hok] at hfit
                have hop := insOk_op hok
                simp only at hop
                have t1 := takes_nn op
                have t2 : takes op ≤ 2 := by unfold takes; repeat' split <;> omega
                have p1 := puts_nn op
                have p2 : puts op ≤ 1 := by unfold puts; split <;> omega
                obtain ⟨he1, he2⟩ := effC_get hop
                have hopl : op < 14 := by omega
                have hop0 : 0 ≤ op := by omega
                have wy1 : IntKind.i64.wrap (y - takes op) = y - takes op := wrap_of (by omega) (by omega)
                have wy2 : IntKind.i64.wrap (y - takes op + puts op) = y - takes op + puts op := wrap_of (by omega) (by omega)
                have hj := insOk_jump hok
                simp only at hj
                have hi1 : ((i + 1 : Nat) : Int) < (l.length + 1 : Nat) := by omega
                have hi2 : i + 1 < hs.length := by omega
                have h2' : ∀ a d, (hs.set a d).length = l.length + 1 := by intro a d; simp [h2]
                have hstep := hStep_ok (len := l.length) (vars := vars) (x := ⟨op, nn, rel⟩) hy hok (by omega) hi2
                simp only at hstep
                repeat' (first | refine awp_seq ?_ | refine awp_block ?_ | refine awp_scope ?_ | ((first | refine awp_region_k fun Kn Kp hn hp => ?_ | show AWP _ _ (Code.region 14 _ true) _ _ _; refine awp_drawn_k (id := 14) [11] [] [.win [0], .win [0], .win [0], .win [0], .win [0], .win [0], .win [0], .win [0], .win [0], .win [0], .win [0], .eff 0, .win [1], .win [1], .win [1], .win [1], .win [1], .win [1], .win [1], .win [1], .win [1], .win [1], .win [1], .win [1], .win [1], .win [1]] 1 rfl (by as_aux_lemma => kernel_rfl) fun Kn Kp hn hp => ?_ | show AWP _ _ (Code.region 16 _ true) _ _ _; refine awp_drawn_k (id := 16) [] [] [.win [0], .win [0], .win [0], .win [0], .win [0], .win [0], .win [0], .win [0], .win [0], .win [0], .win [0], .win [0], .win [0], .win [0], .win [0], .win [0], .win [0]] 0 rfl (by as_aux_lemma => kernel_rfl) fun Kn Kp hn hp => ?_ | refine oge_intro (by assumption) ?_ | (show AWE _ _ _ _ _ _ _ _ _; first | refine awe_intro (hfit _) ?_ | refine awe_intro (reach_runN _ (l.length + 1) h2 nn (by omega) _ 88 (H0.length + 2) H0.length (H0 ++ _) (by simp only [getOk, List.getElem?_cons_succ, List.getElem?_cons_zero]) (getO0 _ _ _) (by omega)) ?_ | refine awe_intro (reach_runN _ (l.length + 1) h2 (i + 1 : Nat) (by omega) _ 88 (H0.length + 2) H0.length (H0 ++ _) (by simp only [getOk, List.getElem?_cons_succ, List.getElem?_cons_zero]) (getO0 _ _ _) (by omega)) ?_ | refine awe_intro (reach_runN _ (l.length + 1) (h2' _ _) (i + 1 : Nat) (by omega) _ 88 (H0.length + 2) H0.length (H0 ++ _) (by simp only [getOk, List.getElem?_cons_succ, List.getElem?_cons_zero]) (getO0 _ _ _) (by omega)) ?_) | (show AWSF _ _ _ _ _ _ _ _ _ _ _; first | refine awsf_intro (hfit _) (fun hrun => ?_) | refine awsf_intro (reach_runN _ (l.length + 1) h2 nn (by omega) _ 88 (H0.length + 2) H0.length (H0 ++ _) (by simp only [getOk, List.getElem?_cons_succ, List.getElem?_cons_zero]) (getO0 _ _ _) (by omega)) (fun hrun => ?_) | refine awsf_intro (reach_runN _ (l.length + 1) h2 (i + 1 : Nat) (by omega) _ 88 (H0.length + 2) H0.length (H0 ++ _) (by simp only [getOk, List.getElem?_cons_succ, List.getElem?_cons_zero]) (getO0 _ _ _) (by omega)) (fun hrun => ?_) | refine awsf_intro (reach_runN _ (l.length + 1) (h2' _ _) (i + 1 : Nat) (by omega) _ 88 (H0.length + 2) H0.length (H0 ++ _) (by simp only [getOk, List.getElem?_cons_succ, List.getElem?_cons_zero]) (getO0 _ _ _) (by omega)) (fun hrun => ?_)) | (show OGE _ _ _ _ _ _ _; first | refine oge_intro (hfit _) ?_ | refine oge_intro (reach_runN _ (l.length + 1) h2 nn (by omega) _ 88 (H0.length + 2) H0.length (H0 ++ _) (by simp only [getOk, List.getElem?_cons_succ, List.getElem?_cons_zero]) (getO0 _ _ _) (by omega)) ?_ | refine oge_intro (reach_runN _ (l.length + 1) h2 (i + 1 : Nat) (by omega) _ 88 (H0.length + 2) H0.length (H0 ++ _) (by simp only [getOk, List.getElem?_cons_succ, List.getElem?_cons_zero]) (getO0 _ _ _) (by omega)) ?_ | refine oge_intro (reach_runN _ (l.length + 1) (h2' _ _) (i + 1 : Nat) (by omega) _ 88 (H0.length + 2) H0.length (H0 ++ _) (by simp only [getOk, List.getElem?_cons_succ, List.getElem?_cons_zero]) (getO0 _ _ _) (by omega)) ?_) | (show AWSE _ _ _ _ _ _ _ _ _ _ _; first | refine awse_intro (hfit _) (fun hrun => ?_) | refine awse_intro (reach_runN _ (l.length + 1) h2 nn (by omega) _ 88 (H0.length + 2) H0.length (H0 ++ _) (by simp only [getOk, List.getElem?_cons_succ, List.getElem?_cons_zero]) (getO0 _ _ _) (by omega)) (fun hrun => ?_) | refine awse_intro (reach_runN _ (l.length + 1) h2 (i + 1 : Nat) (by omega) _ 88 (H0.length + 2) H0.length (H0 ++ _) (by simp only [getOk, List.getElem?_cons_succ, List.getElem?_cons_zero]) (getO0 _ _ _) (by omega)) (fun hrun => ?_) | refine awse_intro (reach_runN _ (l.length + 1) (h2' _ _) (i + 1 : Nat) (by omega) _ 88 (H0.length + 2) H0.length (H0 ++ _) (by simp only [getOk, List.getElem?_cons_succ, List.getElem?_cons_zero]) (getO0 _ _ _) (by omega)) (fun hrun => ?_)) | (show PGE _ _ _ _ _; first | refine pge_intro (hfit _) (fun tm' => ?_) | refine pge_intro (reach_runN _ (l.length + 1) h2 nn (by omega) _ 88 (H0.length + 2) H0.length (H0 ++ _) (by simp only [getOk, List.getElem?_cons_succ, List.getElem?_cons_zero]) (getO0 _ _ _) (by omega)) (fun tm' => ?_) | refine pge_intro (reach_runN _ (l.length + 1) h2 (i + 1 : Nat) (by omega) _ 88 (H0.length + 2) H0.length (H0 ++ _) (by simp only [getOk, List.getElem?_cons_succ, List.getElem?_cons_zero]) (getO0 _ _ _) (by omega)) (fun tm' => ?_) | refine pge_intro (reach_runN _ (l.length + 1) (h2' _ _) (i + 1 : Nat) (by omega) _ 88 (H0.length + 2) H0.length (H0 ++ _) (by simp only [getOk, List.getElem?_cons_succ, List.getElem?_cons_zero]) (getO0 _ _ _) (by omega)) (fun tm' => ?_))) <;> (simp only [go_sem, Nat.reduceAdd, Nat.reduceSub, Nat.reduceMul, Nat.reduceLeDiff, Nat.reduceLT, Nat.reduceEqDiff, Int.reduceToNat, Int.reduceAdd, Int.reduceMul, Int.reduceSub, Int.reduceLT, Int.reduceLE, Int.reduceEq, Int.reduceNeg, Int.reduceBEq, Int.reduceBNe, ↓reduceIte, reduceCtorEq, effC_len, hlt, List.length_map, h2, hil, hx', hy', Option.map_some, row_set, Int.toNat_natCast, hop0, hopl, he1, he2, wy1, wy2, hw1, List.length_set] <;> try simp (disch := omega) only [wrap_of])) | (refine hn _ _ ?_; clear hn hp Kn Kp) | (refine hp _ _ _ ?_; clear hn hp Kn Kp) | (simp (disch := omega) only [getSkip16, setSkip16, getAt1, setAt1, getAt2, setAt2, getAt3, setAt3, getAt4, setAt4, getAt5, setAt5, getAt6, setAt6, getAt7, setAt7, getAt8, setAt8, getAt9, setAt9, getAt10, setAt10, getAt11, setAt11, getAt12, setAt12, getAt13, setAt13, getAt14, setAt14, getAt15, setAt15, go_sem, Nat.reduceAdd, Nat.reduceSub, Nat.reduceMul, Nat.reduceLeDiff, Nat.reduceLT, Nat.reduceEqDiff, Int.reduceToNat, Int.reduceAdd, Int.reduceMul, Int.reduceSub, Int.reduceLT, Int.reduceLE, Int.reduceEq, Int.reduceNeg, Int.reduceBEq, Int.reduceBNe, ↓reduceIte, reduceCtorEq, effC_len, hlt, List.length_map, h2, hil, hx', hy', Option.map_some, row_set, Int.toNat_natCast, hop0, hopl, he1, he2, wy1, wy2, hw1, List.length_set, if_pos, if_neg, decide_pos', decide_neg', beq_pos', beq_neg', bne_pos', bne_neg', getE, wrap_of]) | (refine awp_cond_t rfl (by first | with_reducible rfl | (simp only [Bool.and_eq_true, Bool.or_eq_true, Bool.and_eq_false_iff, Bool.or_eq_false_iff, decide_eq_true_eq, decide_eq_false_iff_not, beq_iff_eq, bne_iff_ne, bne_eq_false_iff_eq, beq_eq_false_iff_ne, ne_eq, Bool.not_eq_true', Bool.not_eq_false', not_true_eq_false, not_false_eq_true]; omega)) ?_) | (refine awp_cond_f rfl (by first | with_reducible rfl | (simp only [Bool.and_eq_true, Bool.or_eq_true, Bool.and_eq_false_iff, Bool.or_eq_false_iff, decide_eq_true_eq, decide_eq_false_iff_not, beq_iff_eq, bne_iff_ne, bne_eq_false_iff_eq, beq_eq_false_iff_ne, ne_eq, Bool.not_eq_true', Bool.not_eq_false', not_true_eq_false, not_false_eq_true]; omega)) ?_) | (refine awp_cond rfl (fun hb => ?_) (fun hb => ?_) <;> (try simp only [decide_eq_true_eq, decide_eq_false_iff_not, Bool.not_eq_true', Bool.not_eq_false', Bool.true_eq_false, Bool.false_eq_true, beq_iff_eq, bne_iff_ne, Bool.or_eq_true, Bool.and_eq_true, Bool.or_eq_false_iff, Bool.and_eq_false_iff, bne_eq_false_iff_eq, beq_eq_false_iff_ne, gt_iff_lt, ge_iff_le, Int.reduceEq, Int.reduceNe, Int.reduceLT, Int.reduceLE, ne_eq, not_true_eq_false, not_false_eq_true] at hb)) | ((first | refine awg_split (fun hb => ?_) (fun hb => ?_) | refine awsg_split (fun hb => ?_) (fun hb => ?_)) <;> have hb0 := hb <;> (try simp only [decide_eq_true_eq, decide_eq_false_iff_not, Bool.not_eq_true', Bool.not_eq_false', Bool.true_eq_false, Bool.false_eq_true, beq_iff_eq, bne_iff_ne, Bool.or_eq_true, Bool.and_eq_true, Bool.or_eq_false_iff, Bool.and_eq_false_iff, bne_eq_false_iff_eq, beq_eq_false_iff_ne, gt_iff_lt, ge_iff_le, Int.reduceEq, Int.reduceNe, Int.reduceLT, Int.reduceLE, ne_eq, not_true_eq_false, not_false_eq_true] at hb0) <;> (try simp only [beq_true, beq_false, Bool.not_eq_true', Bool.not_eq_false'] at hb) <;> (simp only [go_sem, Nat.reduceAdd, Nat.reduceSub, Nat.reduceMul, Nat.reduceLeDiff, Nat.reduceLT, Nat.reduceEqDiff, Int.reduceToNat, Int.reduceAdd, Int.reduceMul, Int.reduceSub, Int.reduceLT, Int.reduceLE, Int.reduceEq, Int.reduceNeg, Int.reduceBEq, Int.reduceBNe, ↓reduceIte, reduceCtorEq, effC_len, hlt, List.length_map, h2, hil, hx', hy', Option.map_some, row_set, Int.toNat_natCast, hop0, hopl, he1, he2, wy1, wy2, hw1, List.length_set, hb, hb0] <;> try simp (disch := omega) only [wrap_of])) | (refine And.intro ?_ ?_) | refine awp_skip ?_ | refine awp_ret ?_ | refine awp_exit ?_ | refine awp_label ?_ | refine awloop_step ?_ | fail)
                all_goals first
                  | ((refine resX ?_; try exact True.intro); rw [hstep]; simp (disch := omega) only [if_pos, if_neg])
                  | (refine ⟨(i + 1, (hs.set nn.toNat (y - takes op + puts op)).set (i + 1) (y - takes op + puts op)), by simp only; omega, ⟨by simp only; omega, by simp only [List.length_set]; exact h2, (h3.set _ (by omega)).set _ (by omega), by simp only; rw [h5, hstep, ← hd]; simp (disch := omega) only [if_pos, if_neg]⟩, ?_⟩; refine Wk.keepE 3 1 rfl (by simp) (by intro o ho; simp only [List.mem_cons, List.not_mem_nil, or_false] at ho; rcases ho with rfl | rfl | rfl <;> (first | exact row_under | exact effC_under | exact hdr_under)) ?_; simp only [List.map_cons, List.map_nil, AV.low, Fgt, Nat.lt_add_one, if_true, true_or, or_true, and_true, true_and, Nat.add_lt_add_iff_left, Nat.reduceLT])
                  | (refine ⟨(i + 1, hs.set nn.toNat (y - takes op + puts op)), by simp only; omega, ⟨by simp only; omega, by simp only [List.length_set]; exact h2, h3.set _ (by omega), by simp only; rw [h5, hstep, ← hd]; simp (disch := omega) only [if_pos, if_neg]⟩, ?_⟩; refine Wk.keepE 3 1 rfl (by simp) (by intro o ho; simp only [List.mem_cons, List.not_mem_nil, or_false] at ho; rcases ho with rfl | rfl | rfl <;> (first | exact row_under | exact effC_under | exact hdr_under)) ?_; simp only [List.map_cons, List.map_nil, AV.low, Fgt, Nat.lt_add_one, if_true, true_or, or_true, and_true, true_and, Nat.add_lt_add_iff_left, Nat.reduceLT])
                  | (refine ⟨(i + 1, hs.set (i + 1) (y - takes op + puts op)), by simp only; omega, ⟨by simp only; omega, by simp only [List.length_set]; exact h2, h3.set _ (by omega), by simp only; rw [h5, hstep, ← hd]; simp (disch := omega) only [if_pos, if_neg]⟩, ?_⟩; refine Wk.keepE 3 1 rfl (by simp) (by intro o ho; simp only [List.mem_cons, List.not_mem_nil, or_false] at ho; rcases ho with rfl | rfl | rfl <;> (first | exact row_under | exact effC_under | exact hdr_under)) ?_; simp only [List.map_cons, List.map_nil, AV.low, Fgt, Nat.lt_add_one, if_true, true_or, or_true, and_true, true_and, Nat.add_lt_add_iff_left, Nat.reduceLT])
        · have hki : (k : Int) < (l.length + 1 : Nat) := by omega
          have hw : IntKind.i64.wrap ((k : Int) + 1) = ((k + 1 : Nat) : Int) := by rw [wrap_of (by omega) (by omega)]; omega
          have hlen : ((List.replicate (l.length + 1) (-1 : Int)).take k ++ (List.replicate (l.length + 1) (0 : Int)).drop k).length = l.length + 1 := by simp; omega
          have hfill := fill_step (A := List.replicate (l.length + 1) (-1 : Int)) (B := List.replicate (l.length + 1) (0 : Int)) (by simp) (k := k) (x := -1) (by rw [List.getElem?_replicate, if_pos (by omega)])
          generalize hg : (List.replicate (l.length + 1) (-1 : Int)).take k ++ (List.replicate (l.length + 1) (0 : Int)).drop k = row at *
          obtain ⟨z, hz⟩ := get_some (hs := row) (i := k) (by omega)
          have hz' : (row.map fun v => [AV.i v])[k]? = some [AV.i z] := by rw [List.getElem?_map, hz]; rfl
          (have ww1 := hw; have ww2 := hlen; have ww3 := hz'; have ww4 := @row_set; refine wkO ?_; clear ww1 ww2 ww3 ww4; (repeat' first | exact True.intro | refine Lf.mk ?_ ?_); all_goals intro hP)
          refine ⟨k + 1, by omega, by omega, ?_⟩
          simp only [List.replicate_succ] at hfill
          refine Wk.keepE 3 1 (by rw [← hfill]; simp only [rW, List.map_set]; rfl) (by simp) (by intro o ho; simp only [List.mem_cons, List.not_mem_nil, or_false] at ho; rcases ho with rfl | rfl | rfl <;> (first | exact row_under | exact effC_under | exact hdr_under)) ?_
          simp only [List.map_cons, List.map_nil, AV.low, Fgt, Nat.lt_add_one, if_true, true_or, or_true, and_true, true_and, Nat.add_lt_add_iff_left, Nat.reduceLT]
    · simp only [List.forall_mem_cons, List.not_mem_nil, false_implies, implies_true, and_true, go_sem, Nat.reduceAdd, Nat.reduceSub, Nat.reduceMul, Nat.reduceLeDiff, Nat.reduceLT, Nat.reduceEqDiff, Int.reduceToNat, Int.reduceAdd, Int.reduceMul, Int.reduceSub, Int.reduceLT, Int.reduceLE, Int.reduceEq, Int.reduceNeg, Int.reduceBEq, Int.reduceBNe, ↓reduceIte, reduceCtorEq, pick, List.length_map, w1, hk1, hk2, Int.le_refl, List.length_replicate]
      (have rr1 := dr29_14_X11a; have rr2 := dr29_16_X11a; have ww1 := w1; have ww2 := hk1; have ww3 := hk2; have ww4 := and_self; have cc1 := fun z1 => heff z1; refine wkS ?_; clear rr1 rr2 ww1 ww2 ww3 ww4 cc1; (repeat' first | exact True.intro | refine Lf.mk ?_ ?_); all_goals intro hP)
      all_goals (first | ((refine hW _ _ (Wk.perm0 [0, 1, 2] (by decide) ?_ ?_)) <;> (simp only [PermL, FgtR, AObj.ren, AV.ren, AV.under, AObj.under, AL.perm_0, AL.perm_k, List.map_cons, List.map_nil, List.map_map, List.map_replicate, List.replicate_succ, List.getD_cons_zero, List.getD_cons_succ, List.getElem?_cons_zero, List.getElem?_cons_succ, List.length_cons, List.length_nil, Nat.add_zero, Nat.zero_add, Nat.reduceAdd, Nat.add_lt_add_iff_left, Nat.reduceLT, Nat.lt_add_right_iff_pos, List.forall_mem_cons, List.mem_cons, List.not_mem_nil, forall_eq_or_imp, forall_eq, false_implies, implies_true, reduceCtorEq, false_or, true_or, or_true, and_true, true_and, and_self, List.forall_mem_map, List.mem_map, forall_exists_index, and_imp, forall_apply_eq_imp_iff₂, Function.comp_def, List.mem_replicate, ne_eq, effC, effP]) <;> (first | (intro a _ ha c hc; subst ha; simp only [List.mem_singleton] at hc; subst hc; simp only [AV.under]))) | ((refine hW _ _ (Wk.perm0 [0, 2, 1] (by decide) ?_ ?_)) <;> (simp only [PermL, FgtR, AObj.ren, AV.ren, AV.under, AObj.under, AL.perm_0, AL.perm_k, List.map_cons, List.map_nil, List.map_map, List.map_replicate, List.replicate_succ, List.getD_cons_zero, List.getD_cons_succ, List.getElem?_cons_zero, List.getElem?_cons_succ, List.length_cons, List.length_nil, Nat.add_zero, Nat.zero_add, Nat.reduceAdd, Nat.add_lt_add_iff_left, Nat.reduceLT, Nat.lt_add_right_iff_pos, List.forall_mem_cons, List.mem_cons, List.not_mem_nil, forall_eq_or_imp, forall_eq, false_implies, implies_true, reduceCtorEq, false_or, true_or, or_true, and_true, true_and, and_self, List.forall_mem_map, List.mem_map, forall_exists_index, and_imp, forall_apply_eq_imp_iff₂, Function.comp_def, List.mem_replicate, ne_eq, effC, effP]) <;> (first | (intro a _ ha c hc; subst ha; simp only [List.mem_singleton] at hc; subst hc; simp only [AV.under]))) | ((refine hW _ _ (Wk.perm0 [1, 0, 2] (by decide) ?_ ?_)) <;> (simp only [PermL, FgtR, AObj.ren, AV.ren, AV.under, AObj.under, AL.perm_0, AL.perm_k, List.map_cons, List.map_nil, List.map_map, List.map_replicate, List.replicate_succ, List.getD_cons_zero, List.getD_cons_succ, List.getElem?_cons_zero, List.getElem?_cons_succ, List.length_cons, List.length_nil, Nat.add_zero, Nat.zero_add, Nat.reduceAdd, Nat.add_lt_add_iff_left, Nat.reduceLT, Nat.lt_add_right_iff_pos, List.forall_mem_cons, List.mem_cons, List.not_mem_nil, forall_eq_or_imp, forall_eq, false_implies, implies_true, reduceCtorEq, false_or, true_or, or_true, and_true, true_and, and_self, List.forall_mem_map, List.mem_map, forall_exists_index, and_imp, forall_apply_eq_imp_iff₂, Function.comp_def, List.mem_replicate, ne_eq, effC, effP]) <;> (first | (intro a _ ha c hc; subst ha; simp only [List.mem_singleton] at hc; subst hc; simp only [AV.under]))) | ((refine hW _ _ (Wk.perm0 [1, 2, 0] (by decide) ?_ ?_)) <;> (simp only [PermL, FgtR, AObj.ren, AV.ren, AV.under, AObj.under, AL.perm_0, AL.perm_k, List.map_cons, List.map_nil, List.map_map, List.map_replicate, List.replicate_succ, List.getD_cons_zero, List.getD_cons_succ, List.getElem?_cons_zero, List.getElem?_cons_succ, List.length_cons, List.length_nil, Nat.add_zero, Nat.zero_add, Nat.reduceAdd, Nat.add_lt_add_iff_left, Nat.reduceLT, Nat.lt_add_right_iff_pos, List.forall_mem_cons, List.mem_cons, List.not_mem_nil, forall_eq_or_imp, forall_eq, false_implies, implies_true, reduceCtorEq, false_or, true_or, or_true, and_true, true_and, and_self, List.forall_mem_map, List.mem_map, forall_exists_index, and_imp, forall_apply_eq_imp_iff₂, Function.comp_def, List.mem_replicate, ne_eq, effC, effP]) <;> (first | (intro a _ ha c hc; subst ha; simp only [List.mem_singleton] at hc; subst hc; simp only [AV.under]))) | ((refine hW _ _ (Wk.perm0 [2, 0, 1] (by decide) ?_ ?_)) <;> (simp only [PermL, FgtR, AObj.ren, AV.ren, AV.under, AObj.under, AL.perm_0, AL.perm_k, List.map_cons, List.map_nil, List.map_map, List.map_replicate, List.replicate_succ, List.getD_cons_zero, List.getD_cons_succ, List.getElem?_cons_zero, List.getElem?_cons_succ, List.length_cons, List.length_nil, Nat.add_zero, Nat.zero_add, Nat.reduceAdd, Nat.add_lt_add_iff_left, Nat.reduceLT, Nat.lt_add_right_iff_pos, List.forall_mem_cons, List.mem_cons, List.not_mem_nil, forall_eq_or_imp, forall_eq, false_implies, implies_true, reduceCtorEq, false_or, true_or, or_true, and_true, true_and, and_self, List.forall_mem_map, List.mem_map, forall_exists_index, and_imp, forall_apply_eq_imp_iff₂, Function.comp_def, List.mem_replicate, ne_eq, effC, effP]) <;> (first | (intro a _ ha c hc; subst ha; simp only [List.mem_singleton] at hc; subst hc; simp only [AV.under]))) | ((refine hW _ _ (Wk.perm0 [2, 1, 0] (by decide) ?_ ?_)) <;> (simp only [PermL, FgtR, AObj.ren, AV.ren, AV.under, AObj.under, AL.perm_0, AL.perm_k, List.map_cons, List.map_nil, List.map_map, List.map_replicate, List.replicate_succ, List.getD_cons_zero, List.getD_cons_succ, List.getElem?_cons_zero, List.getElem?_cons_succ, List.length_cons, List.length_nil, Nat.add_zero, Nat.zero_add, Nat.reduceAdd, Nat.add_lt_add_iff_left, Nat.reduceLT, Nat.lt_add_right_iff_pos, List.forall_mem_cons, List.mem_cons, List.not_mem_nil, forall_eq_or_imp, forall_eq, false_implies, implies_true, reduceCtorEq, false_or, true_or, or_true, and_true, true_and, and_self, List.forall_mem_map, List.mem_map, forall_exists_index, and_imp, forall_apply_eq_imp_iff₂, Function.comp_def, List.mem_replicate, ne_eq, effC, effP]) <;> (first | (intro a _ ha c hc; subst ha; simp only [List.mem_singleton] at hc; subst hc; simp only [AV.under]))))
end Go.Proofs.Ytiifbdkedainnaa.Y

set_option maxHeartbeats 8000000
set_option maxRecDepth 100000
set_option linter.unusedVariables false
set_option linter.unusedSimpArgs false
set_option linter.unusedSectionVars false
namespace Go.Proofs.Ytiifbdkedainnaa.Y
open Go.Proofs.Ytiifbdkedainnaa.AL Go.Proofs Go
attribute [local irreducible] AWP AWL AWG AWR AWE AWX AWO AWSeq AWSG AWSR AWSO AWSE AWSF GoodP OGW OGR OGE OGX PGW PGR PGE Wk AWLoop AWPD AWLD

theorem inside_run' (n low high : Int) (H0 : List AObj) :
    ARun Try.prog 28 [.i n, .i low, .i high] H0 (.ret (.b (decide (low ≤ n) && decide (n ≤ high))) H0) := by
  by_cases h1 : low ≤ n <;> by_cases h2 : n ≤ high <;> simp only [h1, h2, decide_true, decide_false, Bool.and_true, Bool.and_false, Bool.and_self] <;> have h1' := h1 <;> have h2' := h2 <;>
  ((refine ARun.intro Try.func28 rfl Try.call28 Try.ntmps28 Try.results28 ?_; simp only [List.length_cons, List.length_nil, List.length_map, Nat.reduceAdd, Nat.reduceSub, List.replicate_succ, List.replicate_zero, List.cons_append, List.nil_append])
   (have ww1 := h1; have ww2 := h2; refine wkO ?_; clear ww1 ww2; (repeat' first | exact True.intro | refine Lf.mk ?_ ?_); all_goals intro hP)
   (refine resX ?_; try exact True.intro))
theorem CVerify_run (c : Cod) (vars : Int) (hf : CodFine c) (H0 : List AObj) :
    ARun Try.prog 16 [agC c, .i vars] H0 (.ret (.b (verC c vars)) H0) := by
  have hin := fun H0 => inside_run' vars 0 12 H0
  by_cases hv : 0 ≤ vars ∧ vars ≤ 12
  · have g0 := fun H0 => chandler_run c.c0 vars hv hf.l0 H0
    have g1 := fun H0 => chandler_run c.c1 vars hv hf.l1 H0
    have g2 := fun H0 => chandler_run c.c2 vars hv hf.l2 H0
    have g3 := fun H0 => chandler_run c.c3 vars hv hf.l3 H0
    have g4 := fun H0 => chandler_run c.c4 vars hv hf.l4 H0
    have hd : (decide (0 ≤ vars) && decide (vars ≤ 12)) = true := by simp [hv]
    simp only [hd] at hin
    (refine ARun.intro Try.func16 rfl Try.call16 Try.ntmps16 Try.results16 ?_; simp only [List.length_cons, List.length_nil, List.length_map, Nat.reduceAdd, Nat.reduceSub, List.replicate_succ, List.replicate_zero, List.cons_append, List.nil_append])
    (have cc1 := fun z1 => hin z1; refine wk ?_; clear cc1; (repeat' first | exact True.intro | refine Lf.mk ?_ ?_); all_goals intro hP)
    refine awp_loop 6 ?_
    (have cc1 := fun z1 => g0 z1; have cc2 := fun z1 => g1 z1; have cc3 := fun z1 => g2 z1; have cc4 := fun z1 => g3 z1; have cc5 := fun z1 => g4 z1; refine wk ?_; clear cc1 cc2 cc3 cc4 cc5; (repeat' first | exact True.intro | refine Lf.mk ?_ ?_); all_goals intro hP)
    all_goals ((refine resX ?_; try exact True.intro); simp_all [verC])
  · have hd : (decide (0 ≤ vars) && decide (vars ≤ 12)) = false := by simp; omega
    have hd' : decide (0 ≤ vars ∧ vars ≤ 12) = false := by simp; omega
    simp only [hd] at hin
    (refine ARun.intro Try.func16 rfl Try.call16 Try.ntmps16 Try.results16 ?_; simp only [List.length_cons, List.length_nil, List.length_map, Nat.reduceAdd, Nat.reduceSub, List.replicate_succ, List.replicate_zero, List.cons_append, List.nil_append])
    (have cc1 := fun z1 => hin z1; refine wk ?_; clear cc1; (repeat' first | exact True.intro | refine Lf.mk ?_ ?_); all_goals intro hP)
    refine awp_loop 6 ?_
    (refine wk ?_; (repeat' first | exact True.intro | refine Lf.mk ?_ ?_); all_goals intro hP)
    (refine resX ?_; try exact True.intro)
    simp [verC, hd']
end Go.Proofs.Ytiifbdkedainnaa.Y

set_option maxHeartbeats 8000000
set_option maxRecDepth 100000
set_option linter.unusedVariables false
set_option linter.unusedSimpArgs false
set_option linter.unusedSectionVars false
namespace Go.Proofs.Ytiifbdkedainnaa.Y
open Go.Proofs.Ytiifbdkedainnaa.AL Go.Proofs Go
attribute [local irreducible] AWP AWL AWG AWR AWE AWX AWO AWSeq AWSG AWSR AWSO AWSE AWSF GoodP OGW OGR OGE OGX PGW PGR PGE Wk AWLoop AWPD AWLD

def dE : Ex := .mk 0 0 0 []
/-- The example. -/
def pEx : Prg := ⟨⟨#[112]⟩, [⟨⟨#[119]⟩, 1, 1, 9, 1⟩], [.mk 2 0 1 (.mk 3 0 0 []) (.mk 1 2 1 []) [.mk 1 0 0 (.mk 4 0 0 [.mk 2 0 0 [], .mk 3 0 0 []]) dE [] []] [.mk 1 0 0 (.mk 1 1 1 []) dE [] []]], [], [], [], [], 0, -1⟩
theorem num9_run (n : Int) (H0 : List AObj) : ARun Try.prog 38 [.i n] H0 (.ret (.ag (cE (.mk 1 n 1 []))) H0) := by
  show ARun Try.prog 38 [.i n] H0 (.ret (.agg [.i 1, .i n, .i 1, .rs 4 []]) H0)
  (refine ARun.intro Try.func38 rfl Try.call38 Try.ntmps38 Try.results38 ?_; simp only [List.length_cons, List.length_nil, List.length_map, Nat.reduceAdd, Nat.reduceSub, List.replicate_succ, List.replicate_zero, List.cons_append, List.nil_append])
  (refine wk ?_; (repeat' first | exact True.intro | refine Lf.mk ?_ ?_); all_goals intro hP)
  (refine resC ?_; (repeat' (first | exact True.intro | refine Lf.mk ?_ ?_)))
  (repeat' (first | exact trivial | exact Cv.refl _ | exact Cv.nil (Nat.succ_pos _) | exact PCv.refl _ | exact PCv.nil (Nat.succ_pos _) | refine And.intro ?_ ?_ | refine Cv.agg ?_ | refine Cv.tup ?_ | refine Cv.pv (PCv.rs ?_) | refine PCv.rs ?_))
theorem in9_run (n : Int) (H0 : List AObj) : ARun Try.prog 37 [.i n] H0 (.ret (.ag (cE (.mk 3 n 0 []))) H0) := by
  show ARun Try.prog 37 [.i n] H0 (.ret (.agg [.i 3, .i n, .i 0, .rs 4 []]) H0)
  (refine ARun.intro Try.func37 rfl Try.call37 Try.ntmps37 Try.results37 ?_; simp only [List.length_cons, List.length_nil, List.length_map, Nat.reduceAdd, Nat.reduceSub, List.replicate_succ, List.replicate_zero, List.cons_append, List.nil_append])
  (refine wk ?_; (repeat' first | exact True.intro | refine Lf.mk ?_ ?_); all_goals intro hP)
  (refine resC ?_; (repeat' (first | exact True.intro | refine Lf.mk ?_ ?_)))
  (repeat' (first | exact trivial | exact Cv.refl _ | exact Cv.nil (Nat.succ_pos _) | exact PCv.refl _ | exact PCv.nil (Nat.succ_pos _) | refine And.intro ?_ ?_ | refine Cv.agg ?_ | refine Cv.tup ?_ | refine Cv.pv (PCv.rs ?_) | refine PCv.rs ?_))
theorem example9_run (H0 : List AObj) : ARun Try.prog 23 [] H0 (.ret (.ag (cP pEx)) H0) := by
  (refine ARun.intro Try.func23 rfl Try.call23 Try.ntmps23 Try.results23 ?_; simp only [List.length_cons, List.length_nil, List.length_map, Nat.reduceAdd, Nat.reduceSub, List.replicate_succ, List.replicate_zero, List.cons_append, List.nil_append])
  (refine wk ?_; (repeat' first | exact True.intro | refine Lf.mk ?_ ?_); all_goals intro hP)
  (refine awp_drawnO_k (id := 3) [4, 7, 10, 12, 15] [] [([4, 7, 10, 12, 15], [0, 1, 2, 3, 4, 5, 6, 7, 8, 9, 10, 11, 12, 13, 14, 15], [.win [0], .win [0], .win [0], .win [0], .eff 0, .win [1], .win [1], .eff 1, .win [0, 1, 2], .win [0, 1, 2], .eff 2, .win [3], .eff 3, .win [0, 1, 2, 3, 4], .win [4], .eff 4]), ([4, 10, 7, 12, 15], [0, 1, 2, 3, 4, 5, 6, 8, 9, 10, 7, 11, 12, 13, 14, 15], [.win [0], .win [0], .win [0], .win [0], .eff 0, .win [1, 2], .win [1, 2], .eff 2, .win [0, 1], .win [0, 1], .eff 1, .win [3], .eff 3, .win [0, 1, 2, 3, 4], .win [4], .eff 4]), ([10, 4, 7, 12, 15], [0, 1, 2, 3, 8, 9, 10, 4, 5, 6, 7, 11, 12, 13, 14, 15], [.win [0], .win [0], .win [0, 1], .win [0], .eff 1, .win [2], .win [2], .eff 2, .win [0], .win [0], .eff 0, .win [3], .eff 3, .win [0, 1, 2, 3, 4], .win [4], .eff 4])] 5 rfl (by as_aux_lemma => kernel_rfl) fun Kn Kp hn hp => ?_; simp only [List.forall_mem_cons, List.not_mem_nil, false_implies, implies_true, and_true, go_sem, Nat.reduceAdd, Nat.reduceSub, Nat.reduceMul, Nat.reduceLeDiff, Nat.reduceLT, Nat.reduceEqDiff, Int.reduceToNat, Int.reduceAdd, Int.reduceMul, Int.reduceSub, Int.reduceLT, Int.reduceLE, Int.reduceEq, Int.reduceNeg, Int.reduceBEq, Int.reduceBNe, ↓reduceIte, reduceCtorEq, pick])
  (have cc1 := fun z1 z2 => num9_run z1 z2; have cc2 := fun z1 z2 => in9_run z1 z2; refine wkS ?_; clear cc1 cc2; (repeat' first | exact True.intro | refine Lf.mk ?_ ?_); all_goals intro hP)
  all_goals
    refine hn _ _ ?_
    clear hn hp Kn Kp
    (refine wkS ?_; (repeat' first | exact True.intro | refine Lf.mk ?_ ?_); all_goals intro hP)
    refine ⟨_, rfl, _, rfl, Fin.pureC 6 ?_⟩
    simp only [List.map_cons, List.map_nil, AV.low, AV.toPV, AV.toPVs, AV.toPVr, getO0, getOk, getS0, getSk, List.getElem?_cons_zero, List.getElem?_cons_succ, Nat.not_lt_zero, if_false, if_true, List.length_cons, List.length_nil, Nat.zero_le, and_self, and_true, true_and, List.drop_zero, List.take_succ_cons, List.take_zero, List.take_nil, Option.map_some, Nat.zero_add, not_lt_k, show ∀ n k : Nat, (n ≤ n + k) = True from fun n k => by simp, Nat.le_refl]
  all_goals
    show Cv _ (.agg (_ :: _ :: _ :: _ :: _ :: _ :: _ :: _ :: _ :: []))
    simp only [pEx, dE, List.map_cons, List.map_nil, encS, encSs, encE, encEs, encV, Ex.op, Ex.n, Ex.unit, Ex.kids]
    (repeat' (first | exact trivial | exact Cv.refl _ | exact Cv.nil (Nat.succ_pos _) | exact PCv.refl _ | exact PCv.nil (Nat.succ_pos _) | refine And.intro ?_ ?_ | refine Cv.agg ?_ | refine Cv.tup ?_ | refine Cv.pv (PCv.rs ?_) | refine PCv.rs ?_))
/-- What the example becomes. -/
def wEx : List Ins := [⟨3, 0, 0⟩, ⟨1, 2, 0⟩, ⟨12, 8, 1⟩, ⟨2, 0, 0⟩, ⟨3, 0, 0⟩, ⟨4, 0, 0⟩, ⟨11, 0, 0⟩, ⟨13, 10, 0⟩, ⟨1, 1, 0⟩, ⟨11, 0, 0⟩]
def pZero : Prg := ⟨⟨#[]⟩, [], [], [], [], [], [], 0, 0⟩
instance : DecidableEq Cod := fun a b =>
  if h : a.c0 = b.c0 ∧ a.c1 = b.c1 ∧ a.c2 = b.c2 ∧ a.c3 = b.c3 ∧ a.c4 = b.c4 then isTrue (by cases a; cases b; simp_all) else isFalse (fun e => h (by subst e; exact ⟨rfl, rfl, rfl, rfl, rfl⟩))
theorem compEx : compS pEx = (⟨wEx, [], [], [], []⟩, 0) := by decide +kernel
theorem compZero : compS pZero = (cod0, 1) := by decide +kernel
theorem head9_run (H0 : List AObj) : ARun Try.prog 10 [] H0 (.ret (.b true) H0) := by
  have c1 := fun H => CCompile_run pEx (by decide) (by decide) (by decide) (by decide) H
  rw [compEx] at c1
  have c2 := fun H => CCompile_run pZero (by decide) (by decide) (by decide) (by decide) H
  rw [compZero] at c2
  have s1 := RSameI_run wEx wEx []
  have v1 := fun H => CVerify_run ⟨wEx, [], [], [], []⟩ 1 ⟨by decide, by decide, by decide, by decide, by decide⟩ H
  have v2 := fun H => CVerify_run ⟨wEx, [], [], [], []⟩ 0 ⟨by decide, by decide, by decide, by decide, by decide⟩ H
  have v3 := CVerify_run cod0 0 ⟨by decide, by decide, by decide, by decide, by decide⟩ []
  have v4 := CVerify_run cod0 13 ⟨by decide, by decide, by decide, by decide, by decide⟩ []
  have v5 := CVerify_run ⟨[], [], [⟨1, 0, 0⟩], [], []⟩ 1 ⟨by decide, by decide, by decide, by decide, by decide⟩ []
  have v6 := CVerify_run ⟨[⟨1, 0, 0⟩, ⟨4, 0, 0⟩], [], [], [], []⟩ 1 ⟨by decide, by decide, by decide, by decide, by decide⟩ []
  have v7 := CVerify_run ⟨[], [], [], [], [⟨13, 0, 0⟩]⟩ 1 ⟨by decide, by decide, by decide, by decide, by decide⟩ []
  rw [show sameI wEx wEx = true by decide +kernel] at s1
  rw [show verC ⟨wEx, [], [], [], []⟩ 1 = true by decide +kernel] at v1
  rw [show verC ⟨wEx, [], [], [], []⟩ 0 = false by decide +kernel] at v2
  rw [show verC cod0 0 = true by decide +kernel] at v3
  rw [show verC cod0 13 = false by decide +kernel] at v4
  rw [show verC ⟨[], [], [⟨1, 0, 0⟩], [], []⟩ 1 = false by decide +kernel] at v5
  rw [show verC ⟨[⟨1, 0, 0⟩, ⟨4, 0, 0⟩], [], [], [], []⟩ 1 = false by decide +kernel] at v6
  rw [show verC ⟨[], [], [], [], [⟨13, 0, 0⟩]⟩ 1 = false by decide +kernel] at v7
  simp only [wEx, cod0, agC, List.map_cons, List.map_nil, encI, cI] at s1 v1 v2 v3 v4 v5 v6 v7
  simp only [wEx, cod0, List.map_cons, List.map_nil, encI, cI] at c1 c2
  have c2' : ∀ H, ARun Try.prog 13 [.agg [.pv (.sc (.string ⟨#[]⟩)), .pv (.sc (.slice none 0 0)), .pv (.sc (.slice none 0 0)), .pv (.sc (.slice none 0 0)), .pv (.sc (.slice none 0 0)), .pv (.sc (.slice none 0 0)), .pv (.sc (.slice none 0 0)), .i 0, .i 0]] H _ := fun H => ARun.cv (c2 H) (by refine ⟨?_, trivial⟩; exact Cv.agg (by simp only [pZero, cP, List.map_cons, List.map_nil]; (repeat' (first | exact trivial | exact Cv.refl _ | exact Cv.nil (Nat.succ_pos _) | exact PCv.refl _ | exact PCv.nil (Nat.succ_pos _) | refine And.intro ?_ ?_ | refine Cv.agg ?_ | refine Cv.tup ?_ | refine Cv.pv (PCv.rs ?_) | refine PCv.rs ?_))))
  (refine ARun.intro Try.func10 rfl Try.call10 Try.ntmps10 Try.results10 ?_; simp only [List.length_cons, List.length_nil, List.length_map, Nat.reduceAdd, Nat.reduceSub, List.replicate_succ, List.replicate_zero, List.cons_append, List.nil_append])
  (have cc1 := fun z1 => example9_run z1; have cc2 := fun z1 => c1 z1; have cc3 := fun z1 => v1 z1; have cc4 := fun z1 => v2 z1; have dd1 := s1; have dd2 := v3; have dd3 := v4; have dd4 := v5; have dd5 := v6; have dd6 := v7; have cc5 := fun z1 => c2' z1; refine wkS ?_; clear cc1 cc2 cc3 cc4 dd1 dd2 dd3 dd4 dd5 dd6 cc5; (repeat' first | exact True.intro | refine Lf.mk ?_ ?_); all_goals intro hP)
  (refine resX ?_; try exact True.intro)
end Go.Proofs.Ytiifbdkedainnaa.Y

/- Plain laws: the laws of chapter 09. -/
set_option linter.unusedVariables false
set_option linter.unusedSimpArgs false
namespace Go.Proofs.Ytiifbdkedainnaa.AL
theorem codeSs_app : ∀ (a b : List St) (n : Nat), codeSs (a ++ b) n = codeSs a n ++ codeSs b (n + (codeSs a n).length)
  | [], b, n => by simp [codeSs]
  | s :: a, b, n => by
    rw [List.cons_append, codeSs, codeSs_app a b, codeSs, List.append_assoc, List.length_append, Nat.add_assoc]
theorem codeE_ops {vs : List Un} (e : Ex) : ∀ u, inf vs e = .ok u → ∀ x ∈ codeE e, x.op ≠ 12 ∧ x.op ≠ 13 := by
  induction e using Ex.ind with
  | h e ih =>
    intro u hu
    rcases inf_grants hu with ⟨hk, hop⟩ | ⟨a, b, x, y, hk, h1, h2, ha, hb0⟩
    · obtain ⟨op, n, un, kids⟩ := e
      simp only [Ex.kids, Ex.op, Ex.n, Ex.unit] at *
      subst hk
      intro x hx
      simp [codeE] at hx
      subst hx
      simp only
      omega
    · obtain ⟨op, n, un, kids⟩ := e
      simp only [Ex.kids, Ex.op, Ex.n, Ex.unit] at *
      subst hk
      intro z hz
      have hc : codeE (.mk op n un [a, b]) = codeE a ++ (codeE b ++ [⟨op, 0, 0⟩]) := by simp [codeE, codeEs]
      rw [hc] at hz
      simp only [List.mem_append, List.mem_singleton] at hz
      rcases hz with hz | hz | hz
      · exact ih a (by simp) x ha z hz
      · exact ih b (by simp) y hb0 z hz
      · subst hz; simp only; omega
theorem sh_codeE {vs : List Un} {e : Ex} {u : Un} (h : inf vs e = .ok u) (n : Int) : (codeE e).map (shI n) = codeE e := by
  have := codeE_ops e u h
  rw [List.map_congr_left (g := id) (fun x hx => by unfold shI; rw [if_neg (by have := this x hx; omega)]; rfl), List.map_id]
theorem shI_12 (n m r : Int) : shI n ⟨12, m, r⟩ = ⟨12, m + n, r⟩ := rfl
theorem shI_13 (n m r : Int) : shI n ⟨13, m, r⟩ = ⟨13, m + n, r⟩ := rfl
theorem shI_11 (n m r : Int) : shI n ⟨11, m, r⟩ = ⟨11, m, r⟩ := rfl
theorem codeS_sh {vs : List Un} (s : St) : stS vs s = 0 → ∀ n m, codeS s (n + m) = (codeS s m).map (shI n) := by
  have hl : ∀ l : List St, (∀ k ∈ l, stS vs k = 0 → ∀ n m, codeS k (n + m) = (codeS k m).map (shI n)) → stSL vs l = 0 → ∀ n m, codeSs l (n + m) = (codeSs l m).map (shI n) := by
    intro l
    induction l with
    | nil => intro _ _ n m; simp [codeSs]
    | cons x xs ih =>
      intro h h2 n m
      simp only [stSL] at h2
      split at h2
      · rename_i hx
        simp only [codeSs, List.map_append]
        rw [h x (by simp) hx n m, List.length_map, Nat.add_assoc, ih (fun k hk => h k (by simp [hk])) h2]
      · contradiction
  induction s using St.ind with
  | h s h1 h2 =>
    intro h n m
    rw [codeS_eq, codeS_eq]
    rcases stS_ok h with ⟨hk1, hv0, hv1, u, hu⟩ | ⟨hk2, hr1, hr2, ⟨u, hu⟩, ⟨u', hu'⟩, ht, he⟩
    · rw [if_pos hk1, if_pos hk1, List.map_append, sh_codeE hu]; rfl
    · rw [if_neg (by omega), if_neg (by omega)]
      have g1 := hl _ h1 ht
      have g2 := hl _ h2 he
      cases hel : s.els with
      | nil =>
        simp only [Nat.add_assoc, g1, List.map_append, List.length_map, sh_codeE hu, sh_codeE hu', List.map_cons, List.map_nil, shI_12]
        simp only [Int.natCast_add, Int.add_comm, Int.add_left_comm, Int.add_assoc]
      | cons x xs =>
        rw [hel] at g2
        simp only [Nat.add_assoc, g1, g2, List.map_append, List.length_map, sh_codeE hu, sh_codeE hu', List.map_cons, List.map_nil, shI_12, shI_13]
        simp only [Int.natCast_add, Int.add_comm, Int.add_left_comm, Int.add_assoc]
theorem codeSs_sh {vs : List Un} : ∀ (l : List St), stSL vs l = 0 → ∀ n m, codeSs l (n + m) = (codeSs l m).map (shI n)
  | [], _, n, m => by simp [codeSs]
  | x :: xs, h, n, m => by
    simp only [stSL] at h
    split at h
    · rename_i hx
      simp only [codeSs, List.map_append]
      rw [codeS_sh x hx n m, List.length_map, Nat.add_assoc, codeSs_sh xs h]
    · contradiction
/-- The code of two lists is that of the first, and that of the second behind it. -/
theorem codeSs_join {vs : List Un} {a b : List St} (h : stSL vs b = 0) : codeSs (a ++ b) 0 = joinS (codeSs a 0) (codeSs b 0) := by
  rw [codeSs_app, Nat.zero_add]
  have := codeSs_sh b h (codeSs a 0).length 0
  rw [Nat.add_zero] at this
  rw [this]; rfl
theorem stSL_app {vs : List Un} : ∀ {a b : List St}, stSL vs a = 0 → stSL vs b = 0 → stSL vs (a ++ b) = 0
  | [], b, _, h => h
  | x :: xs, b, h, k => by
    simp only [stSL] at h
    split at h
    · rename_i hx
      simp only [List.cons_append, stSL]
      rw [if_pos hx]
      exact stSL_app h k
    · contradiction
end Go.Proofs.Ytiifbdkedainnaa.AL

/- Plain laws: programs with other handlers. -/
set_option linter.unusedVariables false
set_option linter.unusedSimpArgs false
namespace Go.Proofs.Ytiifbdkedainnaa.AL
def onP (p : Prg) (a b c d e : List St) : Prg := ⟨p.name, p.vars, a, b, c, d, e, p.window, p.pace⟩
theorem handS_nil (vs : List Un) : handS vs [] = 0 := by unfold handS; simp [manyL, smSL, stSL]
theorem handS_of {vs : List Un} {l : List St} (h : stSL vs l = 0 ∧ smSL l = true ∧ manyL l ≤ 100) : handS vs l = 0 := by
  unfold handS; rw [if_neg (by omega), if_pos h.2.1]; exact h.1
theorem checkS_of {p : Prg} {vs : List Un} (hk : ksL p.vars = some vs) (hi : p.vars.length ≤ 12) (h0 : handS vs p.on0 = 0) (h1 : handS vs p.on1 = 0) (h2 : handS vs p.on2 = 0) (h3 : handS vs p.on3 = 0) (h4 : handS vs p.on4 = 0) : checkS p = (-1, 0) := by
  unfold checkS; rw [hk]; simp only; rw [if_neg (by omega)]; unfold evS; simp [h0, h1, h2, h3, h4]
theorem valid_on {p : Prg} {vs : List Un} (hv : validB p = true) (V : Val p vs) {a b c d e : List St} (h0 : handS vs a = 0) (h1 : handS vs b = 0) (h2 : handS vs c = 0) (h3 : handS vs d = 0) (h4 : handS vs e = 0) : validB (onP p a b c d e) = true := by
  have hc := checkS_of (p := onP p a b c d e) V.ks V.hi h0 h1 h2 h3 h4
  simp only [validB, Bool.and_eq_true, decide_eq_true_eq] at hv ⊢
  refine ⟨hv.1, hv.2.1, hv.2.2.1, hv.2.2.2.1, hv.2.2.2.2.1, hc, ?_⟩
  exact hv.2.2.2.2.2.2
/-- One handler alone. -/
def withP (p : Prg) (l : List St) : Prg := onP p l [] [] [] []
theorem with_valid {p : Prg} {vs : List Un} (hv : validB p = true) (V : Val p vs) (l : List St) : validB (withP p l) = decide (handS vs l = 0) := by
  by_cases h : handS vs l = 0
  · rw [decide_eq_true h]
    exact valid_on hv V h (handS_nil _) (handS_nil _) (handS_nil _) (handS_nil _)
  · rw [decide_eq_false h]
    cases hw : validB (withP p l) with
    | false => rfl
    | true =>
      exfalso
      obtain ⟨vs', V'⟩ := validB_val hw
      have : some vs' = some vs := V'.ks.symm.trans V.ks
      simp only [Option.some.injEq] at this
      subst this
      exact h (handS_of V'.h0)
theorem smSL_app' {a b : List St} (h : smSL a = true) (k : smSL b = true) : smSL (a ++ b) = true := by rw [smSL_app, h, k]; rfl
/-- The program without a handler. -/
def dropP (p : Prg) (k : Nat) : Prg := onP p (if k = 0 then [] else p.on0) (if k = 1 then [] else p.on1) (if k = 2 then [] else p.on2) (if k = 3 then [] else p.on3) (if k = 4 then [] else p.on4)
theorem drop_valid {p : Prg} (hv : validB p = true) (k : Nat) : validB (dropP p k) = true := by
  obtain ⟨vs, V⟩ := validB_val hv
  refine valid_on hv V ?_ ?_ ?_ ?_ ?_ <;> split <;> first | exact handS_nil _ | exact handS_of V.h0 | exact handS_of V.h1 | exact handS_of V.h2 | exact handS_of V.h3 | exact handS_of V.h4
def handP (p : Prg) (k : Nat) : List St := if k = 0 then p.on0 else if k = 1 then p.on1 else if k = 2 then p.on2 else if k = 3 then p.on3 else p.on4
theorem val_hand {p : Prg} {vs : List Un} (V : Val p vs) (k : Nat) : stSL vs (handP p k) = 0 ∧ smSL (handP p k) = true ∧ manyL (handP p k) ≤ 100 := by
  unfold handP
  repeat' split
  · exact V.h0
  · exact V.h1
  · exact V.h2
  · exact V.h3
  · exact V.h4
theorem codeSs_nil (n : Nat) : codeSs [] n = [] := by simp [codeSs]
end Go.Proofs.Ytiifbdkedainnaa.AL

/- Plain laws: damaged code. -/
set_option linter.unusedVariables false
set_option linter.unusedSimpArgs false
namespace Go.Proofs.Ytiifbdkedainnaa.AL
theorem verH_ok {l : List Ins} {vars : Int} (h : verH l vars = true) {i : Nat} {x : Ins} (hx : l[i]? = some x) : insOk x i l.length vars = true := by
  obtain ⟨ht, hc⟩ := verH_cert h
  exact (hc.at' i x hx).ok
/-- Where one instruction is not as it must be. -/
theorem verH_set {l : List Ins} {vars : Int} {i : Nat} {y : Ins} (hi : i < l.length) (hy : insOk y i l.length vars = false) : verH (l.set i y) vars = false := by
  cases h : verH (l.set i y) vars with
  | false => rfl
  | true =>
    have := verH_ok h (i := i) (x := y) (by simp [hi])
    rw [List.length_set] at this
    rw [hy] at this; cases this
theorem verH_snoc {l : List Ins} {vars : Int} {e : Ins} (h : verH l vars = true) (he : 0 < takes e.op ∨ (e.op ≠ 13 ∧ takes e.op = 0 ∧ puts e.op ≠ 0)) : verH (l ++ [e]) vars = false := by
  cases h2 : verH (l ++ [e]) vars with
  | false => rfl
  | true =>
    exfalso
    obtain ⟨ht, hc, hr⟩ := verH_iff.1 h
    obtain ⟨ht', hc'⟩ := verH_cert h2
    have key : ∀ i, i ≤ l.length → ht' i = ht i := by
      intro i
      induction i using Nat.strongRecOn with
      | _ i ih =>
        intro hi
        rcases hr i hi with h0 | ⟨k, x, hk, hx, hl⟩
        · subst h0; rw [hc.zero, hc'.zero]
        · have hkl : k < l.length := (List.getElem?_eq_some_iff.1 hx).1
          have e := ih k hk (by omega)
          have a := hc.at' k x hx
          have b := hc'.at' k x (by rw [List.getElem?_append_left hkl]; exact hx)
          rcases hl with ⟨h1, h2⟩ | ⟨h1, h2⟩
          · subst h2; rw [a.nxt h1, b.nxt h1, e]
          · subst h2; rw [a.jmp h1, b.jmp h1, e]
    have h0 := key l.length (Nat.le_refl _)
    rw [hc.last] at h0
    have b := hc'.at' l.length e (by simp)
    have hl := hc'.last
    rw [List.length_append] at hl
    rcases he with he | ⟨h13, t0, p0⟩
    · have := b.tk; omega
    · have := b.nxt h13
      simp only [List.length_cons, List.length_nil, Nat.zero_add] at hl
      omega
end Go.Proofs.Ytiifbdkedainnaa.AL

/- A row of one's own that is given away. -/
set_option linter.unusedVariables false
set_option linter.unusedSectionVars false
namespace Go.Proofs.Ytiifbdkedainnaa.AL
variable [G : GTab]
theorem toPV_osm {H L : List AObj} {k t sz n d m : Nat} {rows : List (List PV)} (hm : m ≤ H.length + k) (h : L[k]? = some (.arr t sz (pvRows rows))) (hn : rows.length = n) :
    (AV.os (H.length + k) 0 n n).toPV (H ++ L) m (d + 1) = some (.rs sz rows) := by
  subst hn
  simp only [AV.toPV, List.getElem?_append_right (Nat.le_add_right _ _), Nat.add_sub_cancel_left, h, pvRows_len, hm, and_self, if_true, List.drop_zero]
  rw [List.take_of_length_le (by rw [pvRows_len]; exact Nat.le_refl _)]
  unfold pvRows
  rw [toPVs_pvs]
  rfl
theorem low_osm {H L : List AObj} {k t sz n d m : Nat} {rows : List (List PV)} (hm : m ≤ H.length + k) (h : L[k]? = some (.arr t sz (pvRows rows))) (hn : rows.length = n) :
    (AV.os (H.length + k) 0 n n).low (H ++ L) m (d + 1) = .pv (.rs sz rows) := by
  rw [AV.low, if_neg (by omega), toPV_osm hm h hn]
end Go.Proofs.Ytiifbdkedainnaa.AL

/- One row of one's own that is given away with a call, wherever it lies. -/
set_option linter.unusedVariables false
set_option linter.unusedSectionVars false
namespace Go.Proofs.Ytiifbdkedainnaa.AL
variable [G : GTab]
section
variable {w : World} {B : BMap} {S : Nat → Prop} {H : List AObj} {i : Nat}
/-- A value behind the giving away of row i. -/
def AV.frz (i sz : Nat) (rows : List (List PV)) : AV → AV
  | .os id off len ext => if id = i then (if off = 0 ∧ len = rows.length ∧ ext = rows.length then .pv (.rs sz rows) else .any) else .os id off len ext
  | .agg cs => .agg (cs.map fun c => c.frz i sz rows)
  | .tup cs => .tup (cs.map fun c => c.frz i sz rows)
  | a => a
/-- The blocks that are written no more. -/
def Plus (B : BMap) (S : Nat → Prop) (i : Nat) : Nat → Prop := fun b => S b ∨ ∃ c, B i = some (b, c)
theorem set_dead {j : Nat} {o : AObj} (h : (H.set i .dead)[j]? = some o) : (j = i ∧ o = .dead) ∨ (j ≠ i ∧ H[j]? = some o) := by
  by_cases e : j = i
  · subst e
    rw [List.getElem?_set_self'] at h
    cases hx : H[j]? with
    | none => rw [hx] at h; cases h
    | some x => rw [hx] at h; simp at h; exact .inl ⟨rfl, h.symm⟩
  · rw [List.getElem?_set_ne (fun x => e x.symm)] at h
    exact .inr ⟨e, h⟩
theorem frz_step {t sz : Nat} {rows : List (List AV)} (hi : H[i]? = some (.arr t sz rows)) : Step w B S H w B (Plus B S i) (H.set i .dead) := by
  refine ⟨rfl, rfl, rfl, Nat.le_refl _, fun b hb => .inl hb, fun _ _ => rfl, by simp, ?_, ?_⟩
  · intro id t' sz' rows' h
    by_cases e : id = i
    · subst e
      refine .inl (fun t2 sz2 rows2 e2 => ?_)
      rcases set_dead e2 with ⟨_, h2⟩ | ⟨h2, _⟩
      · cases h2
      · exact h2 rfl
    · exact .inr ⟨rows', by rw [List.getElem?_set_ne (fun x => e x.symm)]; exact h, Nat.le_refl _, fun _ => rfl⟩
  · intro id hid hna
    refine ⟨rfl, fun t2 sz2 rows2 e2 => ?_⟩
    rcases set_dead e2 with ⟨_, h2⟩ | ⟨_, h2⟩
    · cases h2
    · exact hna _ _ _ h2
theorem frz_hrel (hr : HRel w B S H) {t sz : Nat} {rows : List (List AV)} (hi : H[i]? = some (.arr t sz rows)) : HRel w B (Plus B S i) (H.set i .dead) := by
  have st := frz_step (w := w) (B := B) (S := S) hi
  have hil := (List.getElem?_eq_some_iff.1 hi).1
  have live : ∀ j, j < (H.set i .dead).length → (H.set i .dead)[j]? ≠ some .dead → j ≠ i ∧ j < H.length ∧ H[j]? ≠ some .dead := by
    intro j hj hd
    have hx := List.getElem?_eq_getElem hj
    rcases set_dead hx with ⟨_, h2⟩ | ⟨h1, h2⟩
    · rw [hx, h2] at hd; exact absurd rfl hd
    · refine ⟨h1, by simpa using hj, ?_⟩
      rw [List.getElem?_set_ne (fun x => h1 x.symm)] at hd
      exact hd
  refine ⟨?_, ?_, ?_, ?_, hr.glob.mono (fun _ h => .inl h) (fun _ _ => rfl)⟩
  · intro id o ho
    rcases set_dead ho with ⟨_, h2⟩ | ⟨_, h2⟩
    · subst h2; trivial
    · exact (hr.obj id o h2).keep st rfl (fun _ _ _ => rfl)
  · intro a b x c d ha hb hda hdb h1 h2
    obtain ⟨_, a1, a2⟩ := live a ha hda
    obtain ⟨_, b1, b2⟩ := live b hb hdb
    exact hr.inj a b x c d a1 b1 a2 b2 h1 h2
  · intro a b c ha hd hB hS
    obtain ⟨a0, a1, a2⟩ := live a ha hd
    rcases hS with hS | ⟨c', hB'⟩
    · exact hr.sep a b c a1 a2 hB hS
    · exact a0 (hr.inj a i b c c' a1 hil a2 (by rw [hi]; simp) hB hB')
  · intro b hb
    rcases hb with hb | ⟨c', hB'⟩
    · exact hr.bound b hb
    · exact hr.lt hil (by rw [hi]; simp) hB'
/-- What is behind i may be forgotten. -/
theorem cut_step : Step w B S H w B S (H.take (i + 1) ++ (H.drop (i + 1)).map fun _ => AObj.dead) := by
  have e : H = H.take (i + 1) ++ H.drop (i + 1) := (List.take_append_drop _ _).symm
  refine ⟨rfl, rfl, rfl, Nat.le_refl _, fun b hb => hb, fun _ _ => rfl, by simp; omega, ?_, ?_⟩
  · intro id t sz rows h
    rcases Nat.lt_or_ge id (H.take (i + 1)).length with hi | hi
    · refine .inr ⟨rows, ?_, Nat.le_refl _, fun _ => rfl⟩
      rw [List.getElem?_append_left hi]
      rw [e, List.getElem?_append_left hi] at h
      exact h
    · refine .inl (fun t' sz' rows' e' => ?_)
      rcases deads_get e' with ⟨h1, _⟩ | ⟨_, h2⟩
      · omega
      · cases h2
  · intro id hid hna
    refine ⟨rfl, fun t sz rows e' => ?_⟩
    rcases deads_get e' with ⟨h1, h2⟩ | ⟨_, h2⟩
    · refine hna t sz rows ?_
      rw [e, List.getElem?_append_left h1]; exact h2
    · cases h2
theorem cut_hrel (hr : HRel w B S H) : HRel w B S (H.take (i + 1) ++ (H.drop (i + 1)).map fun _ => AObj.dead) := by
  have st := cut_step (w := w) (B := B) (S := S) (H := H) (i := i)
  have e : H = H.take (i + 1) ++ H.drop (i + 1) := (List.take_append_drop _ _).symm
  have up : ∀ {j : Nat} {o : AObj}, j < (H.take (i + 1)).length → (H.take (i + 1))[j]? = some o → H[j]? = some o := fun {j o} h1 h2 => by rw [e, List.getElem?_append_left h1]; exact h2
  have live : ∀ j, j < (H.take (i + 1) ++ (H.drop (i + 1)).map fun _ => AObj.dead).length → (H.take (i + 1) ++ (H.drop (i + 1)).map fun _ => AObj.dead)[j]? ≠ some .dead → j < H.length ∧ H[j]? ≠ some .dead := by
    intro j hj hd
    have hx := List.getElem?_eq_getElem hj
    rcases deads_get hx with ⟨h1, h2⟩ | ⟨_, h2⟩
    · have h3 := up h1 h2
      refine ⟨(List.getElem?_eq_some_iff.1 h3).1, ?_⟩
      rw [h3, ← hx]; exact hd
    · rw [hx, h2] at hd; exact absurd rfl hd
  refine ⟨?_, ?_, ?_, hr.bound, hr.glob⟩
  · intro id o ho
    rcases deads_get ho with ⟨h1, h2⟩ | ⟨_, h2⟩
    · exact (hr.obj id o (up h1 h2)).keep st rfl (fun _ _ _ => rfl)
    · subst h2; trivial
  · intro a b x c d ha hb hda hdb h1 h2
    obtain ⟨a1, a2⟩ := live a ha hda
    obtain ⟨b1, b2⟩ := live b hb hdb
    exact hr.inj a b x c d a1 b1 a2 b2 h1 h2
  · intro a b c ha hd hB
    obtain ⟨a1, a2⟩ := live a ha hd
    exact hr.sep a b c a1 a2 hB
theorem frz_os (hr : HRel w B S H) {t sz : Nat} {rows : List (List PV)} (hi : H[i]? = some (.arr t sz (pvRows rows))) {v : Value} (h : ARel w B S H (.os i 0 rows.length rows.length) v) : PRel w (Plus B S i) (.rs sz rows) v := by
  have hil := (List.getElem?_eq_some_iff.1 hi).1
  have h1 := h.mono (cut_step (w := w) (B := B) (S := S) (H := H) (i := i))
  have hr1 := cut_hrel (i := i) hr
  generalize hH : H.take (i + 1) ++ (H.drop (i + 1)).map (fun _ => AObj.dead) = H' at *
  have hi' : H'[i]? = some (.arr t sz (pvRows rows)) := by
    rw [← hH, List.getElem?_append_left (by simp; omega), List.getElem?_take, if_pos (by omega)]; exact hi
  have hil' := (List.getElem?_eq_some_iff.1 hi').1
  have h2 := low_rel (n := 1) hr1 (m := i) (Nat.le_of_lt hil') h1
  have hsplit : H' = H'.take i ++ H'.drop i := (List.take_append_drop _ _).symm
  have hlt : (H'.take i).length = i := by simp; omega
  have e : (AV.os i 0 rows.length rows.length).low H' i 1 = .pv (.rs sz rows) := by
    have := low_osm (H := H'.take i) (L := H'.drop i) (k := 0) (t := t) (sz := sz) (d := 0) (m := i) (n := rows.length) (rows := rows) (by omega) (by rw [List.getElem?_drop, Nat.add_zero]; exact hi') rfl
    rw [hlt, ← hsplit, Nat.add_zero] at this
    exact this
  rw [e] at h2
  cases h2 with
  | pv h3 =>
    refine h3.mono (fun b hb => ?_) (fun _ _ => rfl)
    rcases hb with hb | ⟨j, c, hj, hjl, hjd, hjB⟩
    · exact .inl hb
    · by_cases e : j = i
      · subst e; exact .inr ⟨c, hjB⟩
      · exfalso
        have hx := List.getElem?_eq_getElem hjl
        generalize H'[j] = o at hx
        rw [← hH] at hx
        rcases deads_get hx with ⟨q, _⟩ | ⟨_, q⟩
        · simp at q; omega
        · rw [hH] at hx; rw [hx] at hjd
          exact hjd (by rw [q])
theorem frz_rel (hr : HRel w B S H) {t sz : Nat} {rows : List (List PV)} (hi : H[i]? = some (.arr t sz (pvRows rows))) {a : AV} {v : Value} (h : ARel w B S H a v) : ARel w B (Plus B S i) (H.set i .dead) (a.frz i sz rows) v := by
  have st := frz_step (w := w) (B := B) (S := S) hi
  have lists : ∀ {cs : List AV} {vs : List Value}, (∀ (j : Nat) (c : AV) (v : Value), cs[j]? = some c → vs[j]? = some v → ARel w B (Plus B S i) (H.set i .dead) (c.frz i sz rows) v) →
      ∀ (j : Nat) (c : AV) (v : Value), (cs.map fun c => c.frz i sz rows)[j]? = some c → vs[j]? = some v → ARel w B (Plus B S i) (H.set i .dead) c v := by
    intro cs vs h j c v hc hv
    simp only [List.getElem?_map, Option.map_eq_some_iff] at hc
    obtain ⟨c', hc, rfl⟩ := hc
    exact h j c' v hc hv
  induction h with
  | @os id off len ext v hid h1 hl =>
    have h : ARel w B S H (.os id off len ext) v := ARel.os hid h1 hl
    simp only [AV.frz]
    split
    · rename_i e
      subst e
      split
      · rename_i e2
        obtain ⟨rfl, rfl, rfl⟩ := e2
        exact .pv (frz_os hr hi h)
      · exact .any
    · exact h.mono st
  | agg hl h1 h ih => simp only [AV.frz]; exact .agg (by simpa using hl) h1 (lists ih)
  | tup hl h ih => simp only [AV.frz]; exact .tup (by simpa using hl) (lists ih)
  | any => simp only [AV.frz]; exact .any
  | pv h => simp only [AV.frz]; exact (ARel.pv h).mono st
  | p hb hid hk => simp only [AV.frz]; exact (ARel.p hb hid hk).mono st
  | op hid h1 hl => simp only [AV.frz]; exact (ARel.op hid h1 hl).mono st
  | rp h => simp only [AV.frz]; exact (ARel.rp h).mono st
  | fn hf hc h k ih ik => simp only [AV.frz]; exact (ARel.fn hf hc h k).mono st
  | ifc h ih => simp only [AV.frz]; exact (ARel.ifc h).mono st
  | mp hb hid hk => simp only [AV.frz]; exact (ARel.mp hb hid hk).mono st
end
/-- A function may be given a row of one's own: it is gone then. -/
theorem ARun.frz {P : Program} {f : FuncId} {args args' : List AV} {v : AV} {H : List AObj} {t sz : Nat} {rows : List (List PV)} (i : Nat) (hi : H[i]? = some (.arr t sz (pvRows rows)))
    (h : ARun P f args' (H.set i .dead) (.ret v (H.set i .dead))) (ha : CvL (args.map fun c => c.frz i sz rows) args') : ARun P f args H (.ret v (H.set i .dead)) := by
  refine ⟨h.call, fun w B S vs hr hargs => ?_⟩
  have st0 := frz_step (w := w) (B := B) (S := S) hi
  have ha0 : ARelL w B (Plus B S i) (H.set i .dead) args' vs := by
    obtain ⟨g1, g2⟩ := ha.get
    refine ⟨by rw [← g1, List.length_map]; exact hargs.1, fun j c v hc hv => ?_⟩
    obtain ⟨c1, hc1, hcv⟩ := g2 j c hc
    simp only [List.getElem?_map, Option.map_eq_some_iff] at hc1
    obtain ⟨c', hc, rfl⟩ := hc1
    exact hcv _ _ _ _ _ (frz_rel hr hi (hargs.2 j c' v hc hv))
  refine (h.run w B _ vs (frz_hrel hr hi) ha0).mono ?_
  rintro e w' ⟨B', S', st, hr', he⟩
  exact ⟨B', S', st0.trans st, hr', he⟩
end Go.Proofs.Ytiifbdkedainnaa.AL

set_option maxHeartbeats 8000000
set_option maxRecDepth 100000
set_option linter.unusedVariables false
set_option linter.unusedSimpArgs false
set_option linter.unusedSectionVars false
namespace Go.Proofs.Ytiifbdkedainnaa.Y
open Go.Proofs.Ytiifbdkedainnaa.AL Go.Proofs Go
attribute [local irreducible] AWP AWL AWG AWR AWE AWX AWO AWSeq AWSG AWSR AWSO AWSE AWSF GoodP OGW OGR OGE OGX PGW PGR PGE Wk AWLoop AWPD AWLD

/-- What is put at the end of a handler. -/
def exI (j len : Nat) : Ins := if j = 0 then ⟨1, 0, 0⟩ else if j = 1 then ⟨3, 0, 0⟩ else if j = 2 then ⟨4, 0, 0⟩ else if j = 3 then ⟨11, 0, 0⟩ else ⟨12, (len : Int) + 1, 1⟩
theorem getX {len : Nat} (j : Nat) (h : j < 5) : [[AV.i 1, .i 0, .i 0], [.i 3, .i 0, .i 0], [.i 4, .i 0, .i 0], [.i 11, .i 0, .i 0], [.i 12, .i ((len : Int) + 1), .i 1]][j]? = some [.i (exI j len).op, .i (exI j len).n, .i (exI j len).rel] := by
  rcases (show j = 0 ∨ j = 1 ∨ j = 2 ∨ j = 3 ∨ j = 4 by omega) with rfl | rfl | rfl | rfl | rfl <;> rfl
theorem exI_bad (j len : Nat) : 0 < takes (exI j len).op ∨ ((exI j len).op ≠ 13 ∧ takes (exI j len).op = 0 ∧ puts (exI j len).op ≠ 0) := by
  unfold exI
  split
  · exact .inr (by decide)
  · split
    · exact .inr (by decide)
    · split
      · exact .inl (by decide)
      · split
        · exact .inl (by decide)
        · exact .inl (show 0 < takes 12 by decide)
theorem pR_set3 (X : List Ins) (k : Nat) (a b c : Int) : (pR X).set k [.i a, .i b, .i c] = pR (X.set k ⟨a, b, c⟩) := pR_set X k ⟨a, b, c⟩
theorem renR (f : Nat → Nat) (X : List Ins) : List.map (fun r => List.map (fun c => AV.ren f c) r) (pR X) = pR X := by
  simp [pvRows, AV.ren, Function.comp_def]
theorem undR (m : Nat) (X : List Ins) : (∀ r : List AV, r ∈ pR X → ∀ c : AV, c ∈ r → AV.under m c) = True := by
  apply eq_true
  intro r hr c hc
  simp only [pvRows, List.mem_map] at hr
  obtain ⟨q, _, rfl⟩ := hr
  obtain ⟨z, _, rfl⟩ := List.mem_map.1 hc
  simp [AV.under]
theorem insOk_bad2 {op n rel i len vars : Int} (h : op = 2 ∨ op = 11) (hn : n = vars ∨ n = -1) : insOk ⟨op, n, rel⟩ i len vars = false := by
  unfold insOk
  rcases h with rfl | rfl <;> rcases hn with rfl | rfl <;> simp
theorem insOk_bad3 {n rel i len vars : Int} (hn : n = 4 ∨ n = -1) : insOk ⟨3, n, rel⟩ i len vars = false := by
  unfold insOk
  rcases hn with rfl | rfl <;> simp
theorem insOk_bad12 {op n rel i len vars : Int} (h : op = 12 ∨ op = 13) (hn : n = len + 1 ∨ n = i) : insOk ⟨op, n, rel⟩ i len vars = false := by
  unfold insOk
  rcases h with rfl | rfl <;> rcases hn with rfl | rfl <;> simp <;> omega
theorem insOk_bad1 {n rel i len vars : Int} (hn : n = 1000000000001 ∨ n = -1000000000001) : insOk ⟨1, n, rel⟩ i len vars = false := by
  unfold insOk
  rcases hn with rfl | rfl <;> simp
theorem insOk_badR {op n i len vars : Int} (h : op ≠ 12) : insOk ⟨op, n, 1⟩ i len vars = false := by
  unfold insOk
  rw [if_neg h]; simp

theorem CodeDamage_0 (c : Cod) (vars event at' how : Int) (h10 : 0 ≤ event) (h11 : event ≤ 255) (h20 : 0 ≤ at') (h21 : at' ≤ 65535) (h30 : 0 ≤ how) (h31 : how ≤ 255) (hkk : event.tmod 5 = 0) (hsh : shortS c 4000 = true) (hver : verC c vars = true) (H0 : List AObj) :
    ARun Try.prog 9 [agC c, .i vars, .pv (.sc (.int .u8 event)), .pv (.sc (.int .u16 at')), .pv (.sc (.int .u8 how))] H0 (.ret (.b true) H0) := by
  have hh := fun H0 => head9_run H0
  have hs := fun H0 => RShort9_run c 4000 H0
  have hw1 : IntKind.i64.wrap event = event := wrap_of (by omega) (by omega)
  have hw2 : IntKind.i64.wrap at' = at' := wrap_of (by omega) (by omega)
  have hw3 : IntKind.i64.wrap how = how := wrap_of (by omega) (by omega)
  simp only [hsh] at hs
  have hcf := shortS_fine hsh (by omega)
  have v1 := fun H0 => CVerify_run c vars hcf H0
  rw [hver] at v1
  have hvl : verH c.c0 vars = true := by
    simp only [verC, Bool.and_eq_true] at hver
    first | exact hver.2.1
  obtain ⟨jj, hjj, hj5⟩ : ∃ k : Nat, how.tmod 5 = (k : Int) ∧ k < 5 := ⟨(how.tmod 5).toNat, by rw [Int.tmod_eq_emod_of_nonneg h30]; omega, by rw [Int.tmod_eq_emod_of_nonneg h30]; omega⟩
  have g2 := getX (len := c.c0.length) jj hj5
  have b3 : (jj : Int) < 5 := by omega
  have hll : c.c0.length ≤ 4000 := by
    simp only [shortS, Bool.and_eq_true, decide_eq_true_eq] at hsh
    omega
  have lw : (c.c0.map encI).length = c.c0.length := List.length_map encI
  have wl : IntKind.i64.wrap ((c.c0.length : Int) + 1) = (c.c0.length : Int) + 1 := wrap_of (by omega) (by omega)
  have hbad := verH_snoc hvl (exI_bad jj c.c0.length)
  have cM := ARun.lend (H := H0 ++ [.cells 30 [.rs 3 (c.c0.map encI), .rs 3 (c.c1.map encI), .rs 3 (c.c2.map encI), .rs 3 (c.c3.map encI), .rs 3 (c.c4.map encI)], .cells 30 [.os (H0.length + 4) 0 (c.c0.length + 1) (c.c0.length + 1), .rs 3 (c.c1.map encI), .rs 3 (c.c2.map encI), .rs 3 (c.c3.map encI), .rs 3 (c.c4.map encI)], .arr 41 3 [[.i 1, .i 0, .i 0], [.i 3, .i 0, .i 0], [.i 4, .i 0, .i 0], [.i 11, .i 0, .i 0], [.i 12, .i ((c.c0.length : Int) + 1), .i 1]], .cells 41 [.i (exI jj c.c0.length).op, .i (exI jj c.c0.length).n, .i (exI jj c.c0.length).rel], .arr 41 3 (pR (c.c0 ++ [exI jj c.c0.length])), .arr 41 3 [[.i (exI jj c.c0.length).op, .i (exI jj c.c0.length).n, .i (exI jj c.c0.length).rel]]])
    (args := [.agg [.os (H0.length + 4) 0 (c.c0.length + 1) (c.c0.length + 1), .rs 3 (c.c1.map encI), .rs 3 (c.c2.map encI), .rs 3 (c.c3.map encI), .rs 3 (c.c4.map encI)], .i vars]) 1 (CVerify_run ⟨(c.c0 ++ [exI jj c.c0.length]), c.c1, c.c2, c.c3, c.c4⟩ vars (by obtain ⟨f0, f1, f2, f3, f4⟩ := hcf; exact ⟨by (try simp only [List.length_append, List.length_cons, List.length_nil, List.length_set]); omega, by (try simp only [List.length_append, List.length_cons, List.length_nil, List.length_set]); omega, by (try simp only [List.length_append, List.length_cons, List.length_nil, List.length_set]); omega, by (try simp only [List.length_append, List.length_cons, List.length_nil, List.length_set]); omega, by (try simp only [List.length_append, List.length_cons, List.length_nil, List.length_set]); omega⟩) [])
    (by simp only [List.map_cons, List.map_nil, AV.low]; rw [if_neg (by omega), toPV_osm (m := 0) (k := 4) (Nat.zero_le _) rfl (by simp)]; exact ⟨Cv.refl _, Cv.refl _, trivial⟩) rfl
  rw [show verC ⟨(c.c0 ++ [exI jj c.c0.length]), c.c1, c.c2, c.c3, c.c4⟩ vars = false by unfold verC; rw [hbad]; simp] at cM
  have q1 : (c.c0.map encI).map (fun r => r.map AV.pv) = pR c.c0 := rfl
  have p1 : pR c.c0 ++ [[.i (exI jj c.c0.length).op, .i (exI jj c.c0.length).n, .i (exI jj c.c0.length).rel]] = pR (c.c0 ++ [(exI jj c.c0.length)]) := pR_one c.c0 (exI jj c.c0.length).op (exI jj c.c0.length).n (exI jj c.c0.length).rel
  have l1 := pR_len c.c0
  have f1 : c.c0.length * 24 ≤ 140737488355328 := by omega
  have f2 : c.c0.length ≤ 9223372036854775807 := by omega
  have f3 : (c.c0.length + 1) * 24 ≤ 140737488355328 := by omega
  have f4 : c.c0.length + 1 ≤ 9223372036854775807 := by omega
  (refine ARun.intro Try.func9 rfl Try.call9 Try.ntmps9 Try.results9 ?_; simp only [List.length_cons, List.length_nil, List.length_map, Nat.reduceAdd, Nat.reduceSub, List.replicate_succ, List.replicate_zero, List.cons_append, List.nil_append])
  (have ww1 := hw1; have ww2 := hw2; have ww3 := hw3; have ww4 := hkk; have ww5 := hjj; have ww6 := b3; have ww7 := g2; have ww8 := lw; have ww9 := wl; have cc1 := fun z1 => hh z1; have cc2 := fun z1 => hs z1; have cc3 := fun z1 => v1 z1; refine wk ?_; clear ww1 ww2 ww3 ww4 ww5 ww6 ww7 ww8 ww9 cc1 cc2 cc3; (repeat' first | exact True.intro | refine Lf.mk ?_ ?_); all_goals intro hP)
  refine awp_drawnO_c (id := 8) [1, 6, 8, 9, 12] [([1, 6, 8, 9, 12], [0, 1, 2, 3, 4, 5, 6, 7, 8, 9, 10, 11, 12], [.win [0, 1, 2, 3, 4], .eff 0, .win [0, 1], .win [0, 1], .win [0, 1], .win [0, 1], .eff 1, .win [0, 1, 2], .eff 2, .eff 3, .win [0, 1, 2, 3, 4], .win [4], .eff 4]), ([1, 8, 6, 9, 12], [0, 1, 2, 3, 4, 5, 7, 8, 6, 9, 10, 11, 12], [.win [0, 1, 2, 3, 4], .eff 0, .win [0, 1, 2], .win [0, 1, 2], .win [0, 1, 2], .win [0, 1, 2], .eff 2, .win [0, 1], .eff 1, .eff 3, .win [0, 1, 2, 3, 4], .win [4], .eff 4]), ([8, 1, 6, 9, 12], [0, 2, 3, 4, 5, 7, 8, 1, 6, 9, 10, 11, 12], [.win [0, 1, 2, 3, 4], .eff 1, .win [0, 1, 2], .win [0, 1, 2], .win [0, 1, 2], .win [0, 1, 2], .eff 2, .win [0], .eff 0, .eff 3, .win [0, 1, 2, 3, 4], .win [4], .eff 4])] 5 rfl (by as_aux_lemma => kernel_rfl) ((.any :: .i vars :: .any :: .pv (.sc (.int .u16 at')) :: .pv (.sc (.int .u8 how)) :: .p H0.length 0 :: .any :: .any :: .any :: .any :: .any :: .b true :: .i 0 :: .p (H0.length + 1) 0 :: .any :: .any :: .any :: .any :: .any :: .any :: .any :: .any :: .any :: .any :: .any :: .any :: .any :: .any :: .any :: .any :: .any :: .any :: .any :: .any :: .any :: .any :: .any :: .any :: .any :: .any :: .any :: .any :: .any :: .any :: .any :: .any :: .any :: .any :: .any :: .any :: .any :: .any :: .any :: .any :: .any :: .any :: .any :: .any :: .any :: .any :: .any :: .any :: .any :: .any :: .any :: .any :: .any :: .any :: .any :: .any :: .any :: .any :: .any :: .any :: .any :: .any :: .any :: .any :: .any :: .any :: .any :: .any :: .any :: .any :: .any :: .any :: .any :: .any :: .any :: .any :: .any :: .any :: .any :: .any :: .any :: .any :: .any :: .any :: .any :: .any :: .any :: .any :: .any :: .any :: .any :: .any :: .any :: .any :: .any :: .any :: .any :: .any :: .any :: .any :: .any :: .any :: .any :: .any :: .any :: .any :: .any :: .any :: .any :: .any :: .any :: .any :: .any :: .any :: .any :: .any :: .any :: .any :: .any :: .any :: .any :: .any :: .any :: .any :: .any :: .any :: .any :: .any :: .any :: .any :: .any :: .any :: .any :: .any :: .any :: .any :: .any :: .any :: .any :: []))
    (H0 ++ [.cells 30 [.rs 3 (c.c0.map encI), .rs 3 (c.c1.map encI), .rs 3 (c.c2.map encI), .rs 3 (c.c3.map encI), .rs 3 (c.c4.map encI)], .cells 30 [.os (H0.length + 4) 0 (c.c0.length + 1) (c.c0.length + 1), .rs 3 (c.c1.map encI), .rs 3 (c.c2.map encI), .rs 3 (c.c3.map encI), .rs 3 (c.c4.map encI)], .arr 41 3 [[.i 1, .i 0, .i 0], [.i 3, .i 0, .i 0], [.i 4, .i 0, .i 0], [.i 11, .i 0, .i 0], [.i 12, .i ((c.c0.length : Int) + 1), .i 1]], .cells 41 [.i (exI jj c.c0.length).op, .i (exI jj c.c0.length).n, .i (exI jj c.c0.length).rel], .arr 41 3 (pR (c.c0 ++ [exI jj c.c0.length])), .arr 41 3 [[.i (exI jj c.c0.length).op, .i (exI jj c.c0.length).n, .i (exI jj c.c0.length).rel]]])
    (fun tm H wk h => by simp only [AEx.thn] at h ⊢; exact awp_wk wk h) ?_ (fun Kp W hW => ?_)
  · simp only [AEx.thn]
    by_cases h0 : c.c0.length = 0
    · (have ww1 := lw; have cc1 := cM; refine wkO ?_; clear ww1 cc1; (repeat' first | exact True.intro | refine Lf.mk ?_ ?_); all_goals intro hP)
      (refine resX ?_; try exact True.intro)
    · obtain ⟨ii, hii, hil⟩ : ∃ k : Nat, at'.tmod (c.c0.length : Int) = (k : Int) ∧ k < c.c0.length := by
        have h1 := Int.emod_nonneg at' (show (c.c0.length : Int) ≠ 0 by omega)
        have h2 := Int.emod_lt_of_pos at' (show (0 : Int) < c.c0.length by omega)
        refine ⟨(at'.tmod (c.c0.length : Int)).toNat, ?_, ?_⟩ <;> rw [Int.tmod_eq_emod_of_nonneg h20] <;> omega
      have hx : c.c0[ii]? = some c.c0[ii] := List.getElem?_eq_getElem hil
      have hok := verH_ok hvl hx
      have gx := pR_get hx
      have s3 := pR_set3
      have gS : ∀ y : Ins, (pR (c.c0.set ii y))[ii]? = some [.i y.op, .i y.n, .i y.rel] := fun y => pR_get (by simp [hil])
      have lS : ∀ y : Ins, (pR (c.c0.set ii y)).length = c.c0.length := fun y => by simp [pvRows]
      generalize c.c0[ii] = x at *
      obtain ⟨op, nn, rel⟩ := x
      simp only at gx
      have cD : ∀ y : Ins, insOk y ii c.c0.length vars = false → ARun Try.prog 16 [.agg [.os (H0.length + 6) 0 c.c0.length c.c0.length, .rs 3 (c.c1.map encI), .rs 3 (c.c2.map encI), .rs 3 (c.c3.map encI), .rs 3 (c.c4.map encI)], .i vars] (H0 ++ [.cells 30 [.os (H0.length + 6) 0 c.c0.length c.c0.length, .rs 3 (c.c1.map encI), .rs 3 (c.c2.map encI), .rs 3 (c.c3.map encI), .rs 3 (c.c4.map encI)], .cells 30 [.os (H0.length + 4) 0 (c.c0.length + 1) (c.c0.length + 1), .rs 3 (c.c1.map encI), .rs 3 (c.c2.map encI), .rs 3 (c.c3.map encI), .rs 3 (c.c4.map encI)], .arr 41 3 [[.i 1, .i 0, .i 0], [.i 3, .i 0, .i 0], [.i 4, .i 0, .i 0], [.i 11, .i 0, .i 0], [.i 12, .i ((c.c0.length : Int) + 1), .i 1]], .cells 41 [.i (exI jj c.c0.length).op, .i (exI jj c.c0.length).n, .i (exI jj c.c0.length).rel], .arr 41 3 (pR (c.c0 ++ [exI jj c.c0.length])), .arr 41 3 [[.i (exI jj c.c0.length).op, .i (exI jj c.c0.length).n, .i (exI jj c.c0.length).rel]], .arr 41 3 (pR (c.c0.set ii y))]) (.ret (.b false) (H0 ++ [.cells 30 [.os (H0.length + 6) 0 c.c0.length c.c0.length, .rs 3 (c.c1.map encI), .rs 3 (c.c2.map encI), .rs 3 (c.c3.map encI), .rs 3 (c.c4.map encI)], .cells 30 [.os (H0.length + 4) 0 (c.c0.length + 1) (c.c0.length + 1), .rs 3 (c.c1.map encI), .rs 3 (c.c2.map encI), .rs 3 (c.c3.map encI), .rs 3 (c.c4.map encI)], .arr 41 3 [[.i 1, .i 0, .i 0], [.i 3, .i 0, .i 0], [.i 4, .i 0, .i 0], [.i 11, .i 0, .i 0], [.i 12, .i ((c.c0.length : Int) + 1), .i 1]], .cells 41 [.i (exI jj c.c0.length).op, .i (exI jj c.c0.length).n, .i (exI jj c.c0.length).rel], .arr 41 3 (pR (c.c0 ++ [exI jj c.c0.length])), .arr 41 3 [[.i (exI jj c.c0.length).op, .i (exI jj c.c0.length).n, .i (exI jj c.c0.length).rel]], .arr 41 3 (pR (c.c0.set ii y))])) := by
        intro y hy
        have hb := verH_set hil hy
        have := ARun.lend (H := H0 ++ [.cells 30 [.os (H0.length + 6) 0 c.c0.length c.c0.length, .rs 3 (c.c1.map encI), .rs 3 (c.c2.map encI), .rs 3 (c.c3.map encI), .rs 3 (c.c4.map encI)], .cells 30 [.os (H0.length + 4) 0 (c.c0.length + 1) (c.c0.length + 1), .rs 3 (c.c1.map encI), .rs 3 (c.c2.map encI), .rs 3 (c.c3.map encI), .rs 3 (c.c4.map encI)], .arr 41 3 [[.i 1, .i 0, .i 0], [.i 3, .i 0, .i 0], [.i 4, .i 0, .i 0], [.i 11, .i 0, .i 0], [.i 12, .i ((c.c0.length : Int) + 1), .i 1]], .cells 41 [.i (exI jj c.c0.length).op, .i (exI jj c.c0.length).n, .i (exI jj c.c0.length).rel], .arr 41 3 (pR (c.c0 ++ [exI jj c.c0.length])), .arr 41 3 [[.i (exI jj c.c0.length).op, .i (exI jj c.c0.length).n, .i (exI jj c.c0.length).rel]], .arr 41 3 (pR (c.c0.set ii y))]) (args := [.agg [.os (H0.length + 6) 0 c.c0.length c.c0.length, .rs 3 (c.c1.map encI), .rs 3 (c.c2.map encI), .rs 3 (c.c3.map encI), .rs 3 (c.c4.map encI)], .i vars]) 1 (CVerify_run ⟨(c.c0.set ii y), c.c1, c.c2, c.c3, c.c4⟩ vars (by obtain ⟨f0, f1, f2, f3, f4⟩ := hcf; exact ⟨by (try simp only [List.length_append, List.length_cons, List.length_nil, List.length_set]); omega, by (try simp only [List.length_append, List.length_cons, List.length_nil, List.length_set]); omega, by (try simp only [List.length_append, List.length_cons, List.length_nil, List.length_set]); omega, by (try simp only [List.length_append, List.length_cons, List.length_nil, List.length_set]); omega, by (try simp only [List.length_append, List.length_cons, List.length_nil, List.length_set]); omega⟩) [])
          (by simp only [List.map_cons, List.map_nil, AV.low]; rw [if_neg (by omega), toPV_osm (m := 0) (k := 6) (Nat.zero_le _) rfl (by simp)]; exact ⟨Cv.refl _, Cv.refl _, trivial⟩) rfl
        rw [show verC ⟨(c.c0.set ii y), c.c1, c.c2, c.c3, c.c4⟩ vars = false by unfold verC; rw [hb]; simp] at this
        exact this
      clear v1 hbad hver hs hh
      by_cases o2 : op = 2 ∨ op = 11
      · have cH := cD ⟨op, vars, rel⟩ (insOk_bad2 o2 (.inl rfl))
        have cL := cD ⟨op, -1, rel⟩ (insOk_bad2 o2 (.inr rfl))
        clear cD
        rcases o2 with o2 | o2
        all_goals
          subst o2
          (have ww1 := lw; have ww2 := hw2; have ww3 := hii; have ww4 := gx; have ww5 := gS; have ww6 := s3; have ww7 := lS; have ww8 := l1; have ww9 := q1; have cc1 := cM; have cc2 := cH; have cc3 := cL; refine wkO ?_; clear ww1 ww2 ww3 ww4 ww5 ww6 ww7 ww8 ww9 cc1 cc2 cc3; (repeat' first | exact True.intro | refine Lf.mk ?_ ?_); all_goals intro hP)
          all_goals ((refine resX ?_; try exact True.intro))
      by_cases o3 : op = 3
      · subst o3
        have cH := cD ⟨3, 4, rel⟩ (insOk_bad3 (.inl rfl))
        have cL := cD ⟨3, -1, rel⟩ (insOk_bad3 (.inr rfl))
        clear cD
        (have ww1 := lw; have ww2 := hw2; have ww3 := hii; have ww4 := gx; have ww5 := gS; have ww6 := s3; have ww7 := lS; have ww8 := l1; have ww9 := q1; have cc1 := cM; have cc2 := cH; have cc3 := cL; refine wkO ?_; clear ww1 ww2 ww3 ww4 ww5 ww6 ww7 ww8 ww9 cc1 cc2 cc3; (repeat' first | exact True.intro | refine Lf.mk ?_ ?_); all_goals intro hP)
        all_goals ((refine resX ?_; try exact True.intro))
      by_cases o12 : op = 12 ∨ op = 13
      · have cH := cD ⟨op, (c.c0.length : Int) + 1, rel⟩ (insOk_bad12 o12 (.inl rfl))
        have cL := cD ⟨op, ii, rel⟩ (insOk_bad12 o12 (.inr rfl))
        clear cD
        rcases o12 with o12 | o12
        all_goals
          subst o12
          (have ww1 := lw; have ww2 := hw2; have ww3 := hii; have ww4 := gx; have ww5 := gS; have ww6 := s3; have ww7 := lS; have ww8 := l1; have ww9 := q1; have cc1 := cM; have cc2 := cH; have cc3 := cL; refine wkO ?_; clear ww1 ww2 ww3 ww4 ww5 ww6 ww7 ww8 ww9 cc1 cc2 cc3; (repeat' first | exact True.intro | refine Lf.mk ?_ ?_); all_goals intro hP)
          all_goals ((refine resX ?_; try exact True.intro))
      by_cases o1 : op = 1
      · subst o1
        have cH := cD ⟨1, -1000000000001, rel⟩ (insOk_bad1 (.inr rfl))
        have cL := cD ⟨1, 1000000000001, rel⟩ (insOk_bad1 (.inl rfl))
        clear cD
        (have ww1 := lw; have ww2 := hw2; have ww3 := hii; have ww4 := gx; have ww5 := gS; have ww6 := s3; have ww7 := lS; have ww8 := l1; have ww9 := q1; have cc1 := cM; have cc2 := cH; have cc3 := cL; refine wkO ?_; clear ww1 ww2 ww3 ww4 ww5 ww6 ww7 ww8 ww9 cc1 cc2 cc3; (repeat' first | exact True.intro | refine Lf.mk ?_ ?_); all_goals intro hP)
        all_goals ((refine resX ?_; try exact True.intro))
      · have cH := cD ⟨op, nn, 1⟩ (insOk_badR (fun h => o12 (.inl h)))
        clear cD
        (have ww1 := lw; have ww2 := hw2; have ww3 := hii; have ww4 := gx; have ww5 := gS; have ww6 := s3; have ww7 := lS; have ww8 := l1; have ww9 := q1; have cc1 := cM; have cc2 := cH; refine wkO ?_; clear ww1 ww2 ww3 ww4 ww5 ww6 ww7 ww8 ww9 cc1 cc2; (repeat' first | exact True.intro | refine Lf.mk ?_ ?_); all_goals intro hP)
        all_goals ((refine resX ?_; try exact True.intro))
  · simp only [List.forall_mem_cons, List.not_mem_nil, false_implies, implies_true, and_true, go_sem, Nat.reduceAdd, Nat.reduceSub, Nat.reduceMul, Nat.reduceLeDiff, Nat.reduceLT, Nat.reduceEqDiff, Int.reduceToNat, Int.reduceAdd, Int.reduceMul, Int.reduceSub, Int.reduceLT, Int.reduceLE, Int.reduceEq, Int.reduceNeg, Int.reduceBEq, Int.reduceBNe, ↓reduceIte, reduceCtorEq, pick, List.length_map, q1, l1, f1, f2, f3, f4]
    (have ww1 := lw; have ww2 := q1; have ww3 := p1; have ww4 := l1; have ww5 := f1; have ww6 := f2; have ww7 := f3; have ww8 := f4; refine wkS ?_; clear ww1 ww2 ww3 ww4 ww5 ww6 ww7 ww8; (repeat' first | exact True.intro | refine Lf.mk ?_ ?_); all_goals intro hP)
    all_goals (first | ((refine hW _ _ (Wk.perm0 [0, 1, 2, 3, 4, 5] (by decide) ?_ ?_)) <;> (simp only [PermL, FgtR, AObj.ren, AV.ren, AV.under, AObj.under, AL.perm_0, AL.perm_k, List.map_cons, List.map_nil, List.map_map, List.map_replicate, List.replicate_succ, List.getD_cons_zero, List.getD_cons_succ, List.getElem?_cons_zero, List.getElem?_cons_succ, List.length_cons, List.length_nil, Nat.add_zero, Nat.zero_add, Nat.reduceAdd, Nat.add_lt_add_iff_left, Nat.reduceLT, Nat.lt_add_right_iff_pos, List.forall_mem_cons, List.mem_cons, List.not_mem_nil, forall_eq_or_imp, forall_eq, false_implies, implies_true, reduceCtorEq, false_or, true_or, or_true, and_true, true_and, and_self, List.forall_mem_map, List.mem_map, forall_exists_index, and_imp, forall_apply_eq_imp_iff₂, Function.comp_def, renR, undR]) <;> (first | (intro a _ ha c hc; subst ha; simp only [List.mem_singleton] at hc; subst hc; simp only [AV.under]))) | ((refine hW _ _ (Wk.perm0 [0, 1, 2, 3, 5, 4] (by decide) ?_ ?_)) <;> (simp only [PermL, FgtR, AObj.ren, AV.ren, AV.under, AObj.under, AL.perm_0, AL.perm_k, List.map_cons, List.map_nil, List.map_map, List.map_replicate, List.replicate_succ, List.getD_cons_zero, List.getD_cons_succ, List.getElem?_cons_zero, List.getElem?_cons_succ, List.length_cons, List.length_nil, Nat.add_zero, Nat.zero_add, Nat.reduceAdd, Nat.add_lt_add_iff_left, Nat.reduceLT, Nat.lt_add_right_iff_pos, List.forall_mem_cons, List.mem_cons, List.not_mem_nil, forall_eq_or_imp, forall_eq, false_implies, implies_true, reduceCtorEq, false_or, true_or, or_true, and_true, true_and, and_self, List.forall_mem_map, List.mem_map, forall_exists_index, and_imp, forall_apply_eq_imp_iff₂, Function.comp_def, renR, undR]) <;> (first | (intro a _ ha c hc; subst ha; simp only [List.mem_singleton] at hc; subst hc; simp only [AV.under]))))
theorem CodeDamage_1 (c : Cod) (vars event at' how : Int) (h10 : 0 ≤ event) (h11 : event ≤ 255) (h20 : 0 ≤ at') (h21 : at' ≤ 65535) (h30 : 0 ≤ how) (h31 : how ≤ 255) (hkk : event.tmod 5 = 1) (hsh : shortS c 4000 = true) (hver : verC c vars = true) (H0 : List AObj) :
    ARun Try.prog 9 [agC c, .i vars, .pv (.sc (.int .u8 event)), .pv (.sc (.int .u16 at')), .pv (.sc (.int .u8 how))] H0 (.ret (.b true) H0) := by
  have hh := fun H0 => head9_run H0
  have hs := fun H0 => RShort9_run c 4000 H0
  have hw1 : IntKind.i64.wrap event = event := wrap_of (by omega) (by omega)
  have hw2 : IntKind.i64.wrap at' = at' := wrap_of (by omega) (by omega)
  have hw3 : IntKind.i64.wrap how = how := wrap_of (by omega) (by omega)
  simp only [hsh] at hs
  have hcf := shortS_fine hsh (by omega)
  have v1 := fun H0 => CVerify_run c vars hcf H0
  rw [hver] at v1
  have hvl : verH c.c1 vars = true := by
    simp only [verC, Bool.and_eq_true] at hver
    first | exact hver.2.2.1
  obtain ⟨jj, hjj, hj5⟩ : ∃ k : Nat, how.tmod 5 = (k : Int) ∧ k < 5 := ⟨(how.tmod 5).toNat, by rw [Int.tmod_eq_emod_of_nonneg h30]; omega, by rw [Int.tmod_eq_emod_of_nonneg h30]; omega⟩
  have g2 := getX (len := c.c1.length) jj hj5
  have b3 : (jj : Int) < 5 := by omega
  have hll : c.c1.length ≤ 4000 := by
    simp only [shortS, Bool.and_eq_true, decide_eq_true_eq] at hsh
    omega
  have lw : (c.c1.map encI).length = c.c1.length := List.length_map encI
  have wl : IntKind.i64.wrap ((c.c1.length : Int) + 1) = (c.c1.length : Int) + 1 := wrap_of (by omega) (by omega)
  have hbad := verH_snoc hvl (exI_bad jj c.c1.length)
  have cM := ARun.lend (H := H0 ++ [.cells 30 [.rs 3 (c.c0.map encI), .rs 3 (c.c1.map encI), .rs 3 (c.c2.map encI), .rs 3 (c.c3.map encI), .rs 3 (c.c4.map encI)], .cells 30 [.rs 3 (c.c0.map encI), .os (H0.length + 4) 0 (c.c1.length + 1) (c.c1.length + 1), .rs 3 (c.c2.map encI), .rs 3 (c.c3.map encI), .rs 3 (c.c4.map encI)], .arr 41 3 [[.i 1, .i 0, .i 0], [.i 3, .i 0, .i 0], [.i 4, .i 0, .i 0], [.i 11, .i 0, .i 0], [.i 12, .i ((c.c1.length : Int) + 1), .i 1]], .cells 41 [.i (exI jj c.c1.length).op, .i (exI jj c.c1.length).n, .i (exI jj c.c1.length).rel], .arr 41 3 (pR (c.c1 ++ [exI jj c.c1.length])), .arr 41 3 [[.i (exI jj c.c1.length).op, .i (exI jj c.c1.length).n, .i (exI jj c.c1.length).rel]]])
    (args := [.agg [.rs 3 (c.c0.map encI), .os (H0.length + 4) 0 (c.c1.length + 1) (c.c1.length + 1), .rs 3 (c.c2.map encI), .rs 3 (c.c3.map encI), .rs 3 (c.c4.map encI)], .i vars]) 1 (CVerify_run ⟨c.c0, (c.c1 ++ [exI jj c.c1.length]), c.c2, c.c3, c.c4⟩ vars (by obtain ⟨f0, f1, f2, f3, f4⟩ := hcf; exact ⟨by (try simp only [List.length_append, List.length_cons, List.length_nil, List.length_set]); omega, by (try simp only [List.length_append, List.length_cons, List.length_nil, List.length_set]); omega, by (try simp only [List.length_append, List.length_cons, List.length_nil, List.length_set]); omega, by (try simp only [List.length_append, List.length_cons, List.length_nil, List.length_set]); omega, by (try simp only [List.length_append, List.length_cons, List.length_nil, List.length_set]); omega⟩) [])
    (by simp only [List.map_cons, List.map_nil, AV.low]; rw [if_neg (by omega), toPV_osm (m := 0) (k := 4) (Nat.zero_le _) rfl (by simp)]; exact ⟨Cv.refl _, Cv.refl _, trivial⟩) rfl
  rw [show verC ⟨c.c0, (c.c1 ++ [exI jj c.c1.length]), c.c2, c.c3, c.c4⟩ vars = false by unfold verC; rw [hbad]; simp] at cM
  have q1 : (c.c1.map encI).map (fun r => r.map AV.pv) = pR c.c1 := rfl
  have p1 : pR c.c1 ++ [[.i (exI jj c.c1.length).op, .i (exI jj c.c1.length).n, .i (exI jj c.c1.length).rel]] = pR (c.c1 ++ [(exI jj c.c1.length)]) := pR_one c.c1 (exI jj c.c1.length).op (exI jj c.c1.length).n (exI jj c.c1.length).rel
  have l1 := pR_len c.c1
  have f1 : c.c1.length * 24 ≤ 140737488355328 := by omega
  have f2 : c.c1.length ≤ 9223372036854775807 := by omega
  have f3 : (c.c1.length + 1) * 24 ≤ 140737488355328 := by omega
  have f4 : c.c1.length + 1 ≤ 9223372036854775807 := by omega
  (refine ARun.intro Try.func9 rfl Try.call9 Try.ntmps9 Try.results9 ?_; simp only [List.length_cons, List.length_nil, List.length_map, Nat.reduceAdd, Nat.reduceSub, List.replicate_succ, List.replicate_zero, List.cons_append, List.nil_append])
  (have ww1 := hw1; have ww2 := hw2; have ww3 := hw3; have ww4 := hkk; have ww5 := hjj; have ww6 := b3; have ww7 := g2; have ww8 := lw; have ww9 := wl; have cc1 := fun z1 => hh z1; have cc2 := fun z1 => hs z1; have cc3 := fun z1 => v1 z1; refine wk ?_; clear ww1 ww2 ww3 ww4 ww5 ww6 ww7 ww8 ww9 cc1 cc2 cc3; (repeat' first | exact True.intro | refine Lf.mk ?_ ?_); all_goals intro hP)
  refine awp_drawnO_c (id := 8) [1, 6, 8, 9, 12] [([1, 6, 8, 9, 12], [0, 1, 2, 3, 4, 5, 6, 7, 8, 9, 10, 11, 12], [.win [0, 1, 2, 3, 4], .eff 0, .win [0, 1], .win [0, 1], .win [0, 1], .win [0, 1], .eff 1, .win [0, 1, 2], .eff 2, .eff 3, .win [0, 1, 2, 3, 4], .win [4], .eff 4]), ([1, 8, 6, 9, 12], [0, 1, 2, 3, 4, 5, 7, 8, 6, 9, 10, 11, 12], [.win [0, 1, 2, 3, 4], .eff 0, .win [0, 1, 2], .win [0, 1, 2], .win [0, 1, 2], .win [0, 1, 2], .eff 2, .win [0, 1], .eff 1, .eff 3, .win [0, 1, 2, 3, 4], .win [4], .eff 4]), ([8, 1, 6, 9, 12], [0, 2, 3, 4, 5, 7, 8, 1, 6, 9, 10, 11, 12], [.win [0, 1, 2, 3, 4], .eff 1, .win [0, 1, 2], .win [0, 1, 2], .win [0, 1, 2], .win [0, 1, 2], .eff 2, .win [0], .eff 0, .eff 3, .win [0, 1, 2, 3, 4], .win [4], .eff 4])] 5 rfl (by as_aux_lemma => kernel_rfl) ((.any :: .i vars :: .any :: .pv (.sc (.int .u16 at')) :: .pv (.sc (.int .u8 how)) :: .p H0.length 0 :: .any :: .any :: .any :: .any :: .any :: .b true :: .i 1 :: .p (H0.length + 1) 0 :: .any :: .any :: .any :: .any :: .any :: .any :: .any :: .any :: .any :: .any :: .any :: .any :: .any :: .any :: .any :: .any :: .any :: .any :: .any :: .any :: .any :: .any :: .any :: .any :: .any :: .any :: .any :: .any :: .any :: .any :: .any :: .any :: .any :: .any :: .any :: .any :: .any :: .any :: .any :: .any :: .any :: .any :: .any :: .any :: .any :: .any :: .any :: .any :: .any :: .any :: .any :: .any :: .any :: .any :: .any :: .any :: .any :: .any :: .any :: .any :: .any :: .any :: .any :: .any :: .any :: .any :: .any :: .any :: .any :: .any :: .any :: .any :: .any :: .any :: .any :: .any :: .any :: .any :: .any :: .any :: .any :: .any :: .any :: .any :: .any :: .any :: .any :: .any :: .any :: .any :: .any :: .any :: .any :: .any :: .any :: .any :: .any :: .any :: .any :: .any :: .any :: .any :: .any :: .any :: .any :: .any :: .any :: .any :: .any :: .any :: .any :: .any :: .any :: .any :: .any :: .any :: .any :: .any :: .any :: .any :: .any :: .any :: .any :: .any :: .any :: .any :: .any :: .any :: .any :: .any :: .any :: .any :: .any :: .any :: .any :: .any :: .any :: .any :: .any :: []))
    (H0 ++ [.cells 30 [.rs 3 (c.c0.map encI), .rs 3 (c.c1.map encI), .rs 3 (c.c2.map encI), .rs 3 (c.c3.map encI), .rs 3 (c.c4.map encI)], .cells 30 [.rs 3 (c.c0.map encI), .os (H0.length + 4) 0 (c.c1.length + 1) (c.c1.length + 1), .rs 3 (c.c2.map encI), .rs 3 (c.c3.map encI), .rs 3 (c.c4.map encI)], .arr 41 3 [[.i 1, .i 0, .i 0], [.i 3, .i 0, .i 0], [.i 4, .i 0, .i 0], [.i 11, .i 0, .i 0], [.i 12, .i ((c.c1.length : Int) + 1), .i 1]], .cells 41 [.i (exI jj c.c1.length).op, .i (exI jj c.c1.length).n, .i (exI jj c.c1.length).rel], .arr 41 3 (pR (c.c1 ++ [exI jj c.c1.length])), .arr 41 3 [[.i (exI jj c.c1.length).op, .i (exI jj c.c1.length).n, .i (exI jj c.c1.length).rel]]])
    (fun tm H wk h => by simp only [AEx.thn] at h ⊢; exact awp_wk wk h) ?_ (fun Kp W hW => ?_)
  · simp only [AEx.thn]
    by_cases h0 : c.c1.length = 0
    · (have ww1 := lw; have cc1 := cM; refine wkO ?_; clear ww1 cc1; (repeat' first | exact True.intro | refine Lf.mk ?_ ?_); all_goals intro hP)
      (refine resX ?_; try exact True.intro)
    · obtain ⟨ii, hii, hil⟩ : ∃ k : Nat, at'.tmod (c.c1.length : Int) = (k : Int) ∧ k < c.c1.length := by
        have h1 := Int.emod_nonneg at' (show (c.c1.length : Int) ≠ 0 by omega)
        have h2 := Int.emod_lt_of_pos at' (show (0 : Int) < c.c1.length by omega)
        refine ⟨(at'.tmod (c.c1.length : Int)).toNat, ?_, ?_⟩ <;> rw [Int.tmod_eq_emod_of_nonneg h20] <;> omega
      have hx : c.c1[ii]? = some c.c1[ii] := List.getElem?_eq_getElem hil
      have hok := verH_ok hvl hx
      have gx := pR_get hx
      have s3 := pR_set3
      have gS : ∀ y : Ins, (pR (c.c1.set ii y))[ii]? = some [.i y.op, .i y.n, .i y.rel] := fun y => pR_get (by simp [hil])
      have lS : ∀ y : Ins, (pR (c.c1.set ii y)).length = c.c1.length := fun y => by simp [pvRows]
      generalize c.c1[ii] = x at *
      obtain ⟨op, nn, rel⟩ := x
      simp only at gx
      have cD : ∀ y : Ins, insOk y ii c.c1.length vars = false → ARun Try.prog 16 [.agg [.rs 3 (c.c0.map encI), .os (H0.length + 6) 0 c.c1.length c.c1.length, .rs 3 (c.c2.map encI), .rs 3 (c.c3.map encI), .rs 3 (c.c4.map encI)], .i vars] (H0 ++ [.cells 30 [.rs 3 (c.c0.map encI), .os (H0.length + 6) 0 c.c1.length c.c1.length, .rs 3 (c.c2.map encI), .rs 3 (c.c3.map encI), .rs 3 (c.c4.map encI)], .cells 30 [.rs 3 (c.c0.map encI), .os (H0.length + 4) 0 (c.c1.length + 1) (c.c1.length + 1), .rs 3 (c.c2.map encI), .rs 3 (c.c3.map encI), .rs 3 (c.c4.map encI)], .arr 41 3 [[.i 1, .i 0, .i 0], [.i 3, .i 0, .i 0], [.i 4, .i 0, .i 0], [.i 11, .i 0, .i 0], [.i 12, .i ((c.c1.length : Int) + 1), .i 1]], .cells 41 [.i (exI jj c.c1.length).op, .i (exI jj c.c1.length).n, .i (exI jj c.c1.length).rel], .arr 41 3 (pR (c.c1 ++ [exI jj c.c1.length])), .arr 41 3 [[.i (exI jj c.c1.length).op, .i (exI jj c.c1.length).n, .i (exI jj c.c1.length).rel]], .arr 41 3 (pR (c.c1.set ii y))]) (.ret (.b false) (H0 ++ [.cells 30 [.rs 3 (c.c0.map encI), .os (H0.length + 6) 0 c.c1.length c.c1.length, .rs 3 (c.c2.map encI), .rs 3 (c.c3.map encI), .rs 3 (c.c4.map encI)], .cells 30 [.rs 3 (c.c0.map encI), .os (H0.length + 4) 0 (c.c1.length + 1) (c.c1.length + 1), .rs 3 (c.c2.map encI), .rs 3 (c.c3.map encI), .rs 3 (c.c4.map encI)], .arr 41 3 [[.i 1, .i 0, .i 0], [.i 3, .i 0, .i 0], [.i 4, .i 0, .i 0], [.i 11, .i 0, .i 0], [.i 12, .i ((c.c1.length : Int) + 1), .i 1]], .cells 41 [.i (exI jj c.c1.length).op, .i (exI jj c.c1.length).n, .i (exI jj c.c1.length).rel], .arr 41 3 (pR (c.c1 ++ [exI jj c.c1.length])), .arr 41 3 [[.i (exI jj c.c1.length).op, .i (exI jj c.c1.length).n, .i (exI jj c.c1.length).rel]], .arr 41 3 (pR (c.c1.set ii y))])) := by
        intro y hy
        have hb := verH_set hil hy
        have := ARun.lend (H := H0 ++ [.cells 30 [.rs 3 (c.c0.map encI), .os (H0.length + 6) 0 c.c1.length c.c1.length, .rs 3 (c.c2.map encI), .rs 3 (c.c3.map encI), .rs 3 (c.c4.map encI)], .cells 30 [.rs 3 (c.c0.map encI), .os (H0.length + 4) 0 (c.c1.length + 1) (c.c1.length + 1), .rs 3 (c.c2.map encI), .rs 3 (c.c3.map encI), .rs 3 (c.c4.map encI)], .arr 41 3 [[.i 1, .i 0, .i 0], [.i 3, .i 0, .i 0], [.i 4, .i 0, .i 0], [.i 11, .i 0, .i 0], [.i 12, .i ((c.c1.length : Int) + 1), .i 1]], .cells 41 [.i (exI jj c.c1.length).op, .i (exI jj c.c1.length).n, .i (exI jj c.c1.length).rel], .arr 41 3 (pR (c.c1 ++ [exI jj c.c1.length])), .arr 41 3 [[.i (exI jj c.c1.length).op, .i (exI jj c.c1.length).n, .i (exI jj c.c1.length).rel]], .arr 41 3 (pR (c.c1.set ii y))]) (args := [.agg [.rs 3 (c.c0.map encI), .os (H0.length + 6) 0 c.c1.length c.c1.length, .rs 3 (c.c2.map encI), .rs 3 (c.c3.map encI), .rs 3 (c.c4.map encI)], .i vars]) 1 (CVerify_run ⟨c.c0, (c.c1.set ii y), c.c2, c.c3, c.c4⟩ vars (by obtain ⟨f0, f1, f2, f3, f4⟩ := hcf; exact ⟨by (try simp only [List.length_append, List.length_cons, List.length_nil, List.length_set]); omega, by (try simp only [List.length_append, List.length_cons, List.length_nil, List.length_set]); omega, by (try simp only [List.length_append, List.length_cons, List.length_nil, List.length_set]); omega, by (try simp only [List.length_append, List.length_cons, List.length_nil, List.length_set]); omega, by (try simp only [List.length_append, List.length_cons, List.length_nil, List.length_set]); omega⟩) [])
          (by simp only [List.map_cons, List.map_nil, AV.low]; rw [if_neg (by omega), toPV_osm (m := 0) (k := 6) (Nat.zero_le _) rfl (by simp)]; exact ⟨Cv.refl _, Cv.refl _, trivial⟩) rfl
        rw [show verC ⟨c.c0, (c.c1.set ii y), c.c2, c.c3, c.c4⟩ vars = false by unfold verC; rw [hb]; simp] at this
        exact this
      clear v1 hbad hver hs hh
      by_cases o2 : op = 2 ∨ op = 11
      · have cH := cD ⟨op, vars, rel⟩ (insOk_bad2 o2 (.inl rfl))
        have cL := cD ⟨op, -1, rel⟩ (insOk_bad2 o2 (.inr rfl))
        clear cD
        rcases o2 with o2 | o2
        all_goals
          subst o2
          (have ww1 := lw; have ww2 := hw2; have ww3 := hii; have ww4 := gx; have ww5 := gS; have ww6 := s3; have ww7 := lS; have ww8 := l1; have ww9 := q1; have cc1 := cM; have cc2 := cH; have cc3 := cL; refine wkO ?_; clear ww1 ww2 ww3 ww4 ww5 ww6 ww7 ww8 ww9 cc1 cc2 cc3; (repeat' first | exact True.intro | refine Lf.mk ?_ ?_); all_goals intro hP)
          all_goals ((refine resX ?_; try exact True.intro))
      by_cases o3 : op = 3
      · subst o3
        have cH := cD ⟨3, 4, rel⟩ (insOk_bad3 (.inl rfl))
        have cL := cD ⟨3, -1, rel⟩ (insOk_bad3 (.inr rfl))
        clear cD
        (have ww1 := lw; have ww2 := hw2; have ww3 := hii; have ww4 := gx; have ww5 := gS; have ww6 := s3; have ww7 := lS; have ww8 := l1; have ww9 := q1; have cc1 := cM; have cc2 := cH; have cc3 := cL; refine wkO ?_; clear ww1 ww2 ww3 ww4 ww5 ww6 ww7 ww8 ww9 cc1 cc2 cc3; (repeat' first | exact True.intro | refine Lf.mk ?_ ?_); all_goals intro hP)
        all_goals ((refine resX ?_; try exact True.intro))
      by_cases o12 : op = 12 ∨ op = 13
      · have cH := cD ⟨op, (c.c1.length : Int) + 1, rel⟩ (insOk_bad12 o12 (.inl rfl))
        have cL := cD ⟨op, ii, rel⟩ (insOk_bad12 o12 (.inr rfl))
        clear cD
        rcases o12 with o12 | o12
        all_goals
          subst o12
          (have ww1 := lw; have ww2 := hw2; have ww3 := hii; have ww4 := gx; have ww5 := gS; have ww6 := s3; have ww7 := lS; have ww8 := l1; have ww9 := q1; have cc1 := cM; have cc2 := cH; have cc3 := cL; refine wkO ?_; clear ww1 ww2 ww3 ww4 ww5 ww6 ww7 ww8 ww9 cc1 cc2 cc3; (repeat' first | exact True.intro | refine Lf.mk ?_ ?_); all_goals intro hP)
          all_goals ((refine resX ?_; try exact True.intro))
      by_cases o1 : op = 1
      · subst o1
        have cH := cD ⟨1, -1000000000001, rel⟩ (insOk_bad1 (.inr rfl))
        have cL := cD ⟨1, 1000000000001, rel⟩ (insOk_bad1 (.inl rfl))
        clear cD
        (have ww1 := lw; have ww2 := hw2; have ww3 := hii; have ww4 := gx; have ww5 := gS; have ww6 := s3; have ww7 := lS; have ww8 := l1; have ww9 := q1; have cc1 := cM; have cc2 := cH; have cc3 := cL; refine wkO ?_; clear ww1 ww2 ww3 ww4 ww5 ww6 ww7 ww8 ww9 cc1 cc2 cc3; (repeat' first | exact True.intro | refine Lf.mk ?_ ?_); all_goals intro hP)
        all_goals ((refine resX ?_; try exact True.intro))
      · have cH := cD ⟨op, nn, 1⟩ (insOk_badR (fun h => o12 (.inl h)))
        clear cD
        (have ww1 := lw; have ww2 := hw2; have ww3 := hii; have ww4 := gx; have ww5 := gS; have ww6 := s3; have ww7 := lS; have ww8 := l1; have ww9 := q1; have cc1 := cM; have cc2 := cH; refine wkO ?_; clear ww1 ww2 ww3 ww4 ww5 ww6 ww7 ww8 ww9 cc1 cc2; (repeat' first | exact True.intro | refine Lf.mk ?_ ?_); all_goals intro hP)
        all_goals ((refine resX ?_; try exact True.intro))
  · simp only [List.forall_mem_cons, List.not_mem_nil, false_implies, implies_true, and_true, go_sem, Nat.reduceAdd, Nat.reduceSub, Nat.reduceMul, Nat.reduceLeDiff, Nat.reduceLT, Nat.reduceEqDiff, Int.reduceToNat, Int.reduceAdd, Int.reduceMul, Int.reduceSub, Int.reduceLT, Int.reduceLE, Int.reduceEq, Int.reduceNeg, Int.reduceBEq, Int.reduceBNe, ↓reduceIte, reduceCtorEq, pick, List.length_map, q1, l1, f1, f2, f3, f4]
    (have ww1 := lw; have ww2 := q1; have ww3 := p1; have ww4 := l1; have ww5 := f1; have ww6 := f2; have ww7 := f3; have ww8 := f4; refine wkS ?_; clear ww1 ww2 ww3 ww4 ww5 ww6 ww7 ww8; (repeat' first | exact True.intro | refine Lf.mk ?_ ?_); all_goals intro hP)
    all_goals (first | ((refine hW _ _ (Wk.perm0 [0, 1, 2, 3, 4, 5] (by decide) ?_ ?_)) <;> (simp only [PermL, FgtR, AObj.ren, AV.ren, AV.under, AObj.under, AL.perm_0, AL.perm_k, List.map_cons, List.map_nil, List.map_map, List.map_replicate, List.replicate_succ, List.getD_cons_zero, List.getD_cons_succ, List.getElem?_cons_zero, List.getElem?_cons_succ, List.length_cons, List.length_nil, Nat.add_zero, Nat.zero_add, Nat.reduceAdd, Nat.add_lt_add_iff_left, Nat.reduceLT, Nat.lt_add_right_iff_pos, List.forall_mem_cons, List.mem_cons, List.not_mem_nil, forall_eq_or_imp, forall_eq, false_implies, implies_true, reduceCtorEq, false_or, true_or, or_true, and_true, true_and, and_self, List.forall_mem_map, List.mem_map, forall_exists_index, and_imp, forall_apply_eq_imp_iff₂, Function.comp_def, renR, undR]) <;> (first | (intro a _ ha c hc; subst ha; simp only [List.mem_singleton] at hc; subst hc; simp only [AV.under]))) | ((refine hW _ _ (Wk.perm0 [0, 1, 2, 3, 5, 4] (by decide) ?_ ?_)) <;> (simp only [PermL, FgtR, AObj.ren, AV.ren, AV.under, AObj.under, AL.perm_0, AL.perm_k, List.map_cons, List.map_nil, List.map_map, List.map_replicate, List.replicate_succ, List.getD_cons_zero, List.getD_cons_succ, List.getElem?_cons_zero, List.getElem?_cons_succ, List.length_cons, List.length_nil, Nat.add_zero, Nat.zero_add, Nat.reduceAdd, Nat.add_lt_add_iff_left, Nat.reduceLT, Nat.lt_add_right_iff_pos, List.forall_mem_cons, List.mem_cons, List.not_mem_nil, forall_eq_or_imp, forall_eq, false_implies, implies_true, reduceCtorEq, false_or, true_or, or_true, and_true, true_and, and_self, List.forall_mem_map, List.mem_map, forall_exists_index, and_imp, forall_apply_eq_imp_iff₂, Function.comp_def, renR, undR]) <;> (first | (intro a _ ha c hc; subst ha; simp only [List.mem_singleton] at hc; subst hc; simp only [AV.under]))))
theorem CodeDamage_2 (c : Cod) (vars event at' how : Int) (h10 : 0 ≤ event) (h11 : event ≤ 255) (h20 : 0 ≤ at') (h21 : at' ≤ 65535) (h30 : 0 ≤ how) (h31 : how ≤ 255) (hkk : event.tmod 5 = 2) (hsh : shortS c 4000 = true) (hver : verC c vars = true) (H0 : List AObj) :
    ARun Try.prog 9 [agC c, .i vars, .pv (.sc (.int .u8 event)), .pv (.sc (.int .u16 at')), .pv (.sc (.int .u8 how))] H0 (.ret (.b true) H0) := by
  have hh := fun H0 => head9_run H0
  have hs := fun H0 => RShort9_run c 4000 H0
  have hw1 : IntKind.i64.wrap event = event := wrap_of (by omega) (by omega)
  have hw2 : IntKind.i64.wrap at' = at' := wrap_of (by omega) (by omega)
  have hw3 : IntKind.i64.wrap how = how := wrap_of (by omega) (by omega)
  simp only [hsh] at hs
  have hcf := shortS_fine hsh (by omega)
  have v1 := fun H0 => CVerify_run c vars hcf H0
  rw [hver] at v1
  have hvl : verH c.c2 vars = true := by
    simp only [verC, Bool.and_eq_true] at hver
    first | exact hver.2.2.2.1
  obtain ⟨jj, hjj, hj5⟩ : ∃ k : Nat, how.tmod 5 = (k : Int) ∧ k < 5 := ⟨(how.tmod 5).toNat, by rw [Int.tmod_eq_emod_of_nonneg h30]; omega, by rw [Int.tmod_eq_emod_of_nonneg h30]; omega⟩
  have g2 := getX (len := c.c2.length) jj hj5
  have b3 : (jj : Int) < 5 := by omega
  have hll : c.c2.length ≤ 4000 := by
    simp only [shortS, Bool.and_eq_true, decide_eq_true_eq] at hsh
    omega
  have lw : (c.c2.map encI).length = c.c2.length := List.length_map encI
  have wl : IntKind.i64.wrap ((c.c2.length : Int) + 1) = (c.c2.length : Int) + 1 := wrap_of (by omega) (by omega)
  have hbad := verH_snoc hvl (exI_bad jj c.c2.length)
  have cM := ARun.lend (H := H0 ++ [.cells 30 [.rs 3 (c.c0.map encI), .rs 3 (c.c1.map encI), .rs 3 (c.c2.map encI), .rs 3 (c.c3.map encI), .rs 3 (c.c4.map encI)], .cells 30 [.rs 3 (c.c0.map encI), .rs 3 (c.c1.map encI), .os (H0.length + 4) 0 (c.c2.length + 1) (c.c2.length + 1), .rs 3 (c.c3.map encI), .rs 3 (c.c4.map encI)], .arr 41 3 [[.i 1, .i 0, .i 0], [.i 3, .i 0, .i 0], [.i 4, .i 0, .i 0], [.i 11, .i 0, .i 0], [.i 12, .i ((c.c2.length : Int) + 1), .i 1]], .cells 41 [.i (exI jj c.c2.length).op, .i (exI jj c.c2.length).n, .i (exI jj c.c2.length).rel], .arr 41 3 (pR (c.c2 ++ [exI jj c.c2.length])), .arr 41 3 [[.i (exI jj c.c2.length).op, .i (exI jj c.c2.length).n, .i (exI jj c.c2.length).rel]]])
    (args := [.agg [.rs 3 (c.c0.map encI), .rs 3 (c.c1.map encI), .os (H0.length + 4) 0 (c.c2.length + 1) (c.c2.length + 1), .rs 3 (c.c3.map encI), .rs 3 (c.c4.map encI)], .i vars]) 1 (CVerify_run ⟨c.c0, c.c1, (c.c2 ++ [exI jj c.c2.length]), c.c3, c.c4⟩ vars (by obtain ⟨f0, f1, f2, f3, f4⟩ := hcf; exact ⟨by (try simp only [List.length_append, List.length_cons, List.length_nil, List.length_set]); omega, by (try simp only [List.length_append, List.length_cons, List.length_nil, List.length_set]); omega, by (try simp only [List.length_append, List.length_cons, List.length_nil, List.length_set]); omega, by (try simp only [List.length_append, List.length_cons, List.length_nil, List.length_set]); omega, by (try simp only [List.length_append, List.length_cons, List.length_nil, List.length_set]); omega⟩) [])
    (by simp only [List.map_cons, List.map_nil, AV.low]; rw [if_neg (by omega), toPV_osm (m := 0) (k := 4) (Nat.zero_le _) rfl (by simp)]; exact ⟨Cv.refl _, Cv.refl _, trivial⟩) rfl
  rw [show verC ⟨c.c0, c.c1, (c.c2 ++ [exI jj c.c2.length]), c.c3, c.c4⟩ vars = false by unfold verC; rw [hbad]; simp] at cM
  have q1 : (c.c2.map encI).map (fun r => r.map AV.pv) = pR c.c2 := rfl
  have p1 : pR c.c2 ++ [[.i (exI jj c.c2.length).op, .i (exI jj c.c2.length).n, .i (exI jj c.c2.length).rel]] = pR (c.c2 ++ [(exI jj c.c2.length)]) := pR_one c.c2 (exI jj c.c2.length).op (exI jj c.c2.length).n (exI jj c.c2.length).rel
  have l1 := pR_len c.c2
  have f1 : c.c2.length * 24 ≤ 140737488355328 := by omega
  have f2 : c.c2.length ≤ 9223372036854775807 := by omega
  have f3 : (c.c2.length + 1) * 24 ≤ 140737488355328 := by omega
  have f4 : c.c2.length + 1 ≤ 9223372036854775807 := by omega
  (refine ARun.intro Try.func9 rfl Try.call9 Try.ntmps9 Try.results9 ?_; simp only [List.length_cons, List.length_nil, List.length_map, Nat.reduceAdd, Nat.reduceSub, List.replicate_succ, List.replicate_zero, List.cons_append, List.nil_append])
  (have ww1 := hw1; have ww2 := hw2; have ww3 := hw3; have ww4 := hkk; have ww5 := hjj; have ww6 := b3; have ww7 := g2; have ww8 := lw; have ww9 := wl; have cc1 := fun z1 => hh z1; have cc2 := fun z1 => hs z1; have cc3 := fun z1 => v1 z1; refine wk ?_; clear ww1 ww2 ww3 ww4 ww5 ww6 ww7 ww8 ww9 cc1 cc2 cc3; (repeat' first | exact True.intro | refine Lf.mk ?_ ?_); all_goals intro hP)
  refine awp_drawnO_c (id := 8) [1, 6, 8, 9, 12] [([1, 6, 8, 9, 12], [0, 1, 2, 3, 4, 5, 6, 7, 8, 9, 10, 11, 12], [.win [0, 1, 2, 3, 4], .eff 0, .win [0, 1], .win [0, 1], .win [0, 1], .win [0, 1], .eff 1, .win [0, 1, 2], .eff 2, .eff 3, .win [0, 1, 2, 3, 4], .win [4], .eff 4]), ([1, 8, 6, 9, 12], [0, 1, 2, 3, 4, 5, 7, 8, 6, 9, 10, 11, 12], [.win [0, 1, 2, 3, 4], .eff 0, .win [0, 1, 2], .win [0, 1, 2], .win [0, 1, 2], .win [0, 1, 2], .eff 2, .win [0, 1], .eff 1, .eff 3, .win [0, 1, 2, 3, 4], .win [4], .eff 4]), ([8, 1, 6, 9, 12], [0, 2, 3, 4, 5, 7, 8, 1, 6, 9, 10, 11, 12], [.win [0, 1, 2, 3, 4], .eff 1, .win [0, 1, 2], .win [0, 1, 2], .win [0, 1, 2], .win [0, 1, 2], .eff 2, .win [0], .eff 0, .eff 3, .win [0, 1, 2, 3, 4], .win [4], .eff 4])] 5 rfl (by as_aux_lemma => kernel_rfl) ((.any :: .i vars :: .any :: .pv (.sc (.int .u16 at')) :: .pv (.sc (.int .u8 how)) :: .p H0.length 0 :: .any :: .any :: .any :: .any :: .any :: .b true :: .i 2 :: .p (H0.length + 1) 0 :: .any :: .any :: .any :: .any :: .any :: .any :: .any :: .any :: .any :: .any :: .any :: .any :: .any :: .any :: .any :: .any :: .any :: .any :: .any :: .any :: .any :: .any :: .any :: .any :: .any :: .any :: .any :: .any :: .any :: .any :: .any :: .any :: .any :: .any :: .any :: .any :: .any :: .any :: .any :: .any :: .any :: .any :: .any :: .any :: .any :: .any :: .any :: .any :: .any :: .any :: .any :: .any :: .any :: .any :: .any :: .any :: .any :: .any :: .any :: .any :: .any :: .any :: .any :: .any :: .any :: .any :: .any :: .any :: .any :: .any :: .any :: .any :: .any :: .any :: .any :: .any :: .any :: .any :: .any :: .any :: .any :: .any :: .any :: .any :: .any :: .any :: .any :: .any :: .any :: .any :: .any :: .any :: .any :: .any :: .any :: .any :: .any :: .any :: .any :: .any :: .any :: .any :: .any :: .any :: .any :: .any :: .any :: .any :: .any :: .any :: .any :: .any :: .any :: .any :: .any :: .any :: .any :: .any :: .any :: .any :: .any :: .any :: .any :: .any :: .any :: .any :: .any :: .any :: .any :: .any :: .any :: .any :: .any :: .any :: .any :: .any :: .any :: .any :: .any :: []))
    (H0 ++ [.cells 30 [.rs 3 (c.c0.map encI), .rs 3 (c.c1.map encI), .rs 3 (c.c2.map encI), .rs 3 (c.c3.map encI), .rs 3 (c.c4.map encI)], .cells 30 [.rs 3 (c.c0.map encI), .rs 3 (c.c1.map encI), .os (H0.length + 4) 0 (c.c2.length + 1) (c.c2.length + 1), .rs 3 (c.c3.map encI), .rs 3 (c.c4.map encI)], .arr 41 3 [[.i 1, .i 0, .i 0], [.i 3, .i 0, .i 0], [.i 4, .i 0, .i 0], [.i 11, .i 0, .i 0], [.i 12, .i ((c.c2.length : Int) + 1), .i 1]], .cells 41 [.i (exI jj c.c2.length).op, .i (exI jj c.c2.length).n, .i (exI jj c.c2.length).rel], .arr 41 3 (pR (c.c2 ++ [exI jj c.c2.length])), .arr 41 3 [[.i (exI jj c.c2.length).op, .i (exI jj c.c2.length).n, .i (exI jj c.c2.length).rel]]])
    (fun tm H wk h => by simp only [AEx.thn] at h ⊢; exact awp_wk wk h) ?_ (fun Kp W hW => ?_)
  · simp only [AEx.thn]
    by_cases h0 : c.c2.length = 0
    · (have ww1 := lw; have cc1 := cM; refine wkO ?_; clear ww1 cc1; (repeat' first | exact True.intro | refine Lf.mk ?_ ?_); all_goals intro hP)
      (refine resX ?_; try exact True.intro)
    · obtain ⟨ii, hii, hil⟩ : ∃ k : Nat, at'.tmod (c.c2.length : Int) = (k : Int) ∧ k < c.c2.length := by
        have h1 := Int.emod_nonneg at' (show (c.c2.length : Int) ≠ 0 by omega)
        have h2 := Int.emod_lt_of_pos at' (show (0 : Int) < c.c2.length by omega)
        refine ⟨(at'.tmod (c.c2.length : Int)).toNat, ?_, ?_⟩ <;> rw [Int.tmod_eq_emod_of_nonneg h20] <;> omega
      have hx : c.c2[ii]? = some c.c2[ii] := List.getElem?_eq_getElem hil
      have hok := verH_ok hvl hx
      have gx := pR_get hx
      have s3 := pR_set3
      have gS : ∀ y : Ins, (pR (c.c2.set ii y))[ii]? = some [.i y.op, .i y.n, .i y.rel] := fun y => pR_get (by simp [hil])
      have lS : ∀ y : Ins, (pR (c.c2.set ii y)).length = c.c2.length := fun y => by simp [pvRows]
      generalize c.c2[ii] = x at *
      obtain ⟨op, nn, rel⟩ := x
      simp only at gx
      have cD : ∀ y : Ins, insOk y ii c.c2.length vars = false → ARun Try.prog 16 [.agg [.rs 3 (c.c0.map encI), .rs 3 (c.c1.map encI), .os (H0.length + 6) 0 c.c2.length c.c2.length, .rs 3 (c.c3.map encI), .rs 3 (c.c4.map encI)], .i vars] (H0 ++ [.cells 30 [.rs 3 (c.c0.map encI), .rs 3 (c.c1.map encI), .os (H0.length + 6) 0 c.c2.length c.c2.length, .rs 3 (c.c3.map encI), .rs 3 (c.c4.map encI)], .cells 30 [.rs 3 (c.c0.map encI), .rs 3 (c.c1.map encI), .os (H0.length + 4) 0 (c.c2.length + 1) (c.c2.length + 1), .rs 3 (c.c3.map encI), .rs 3 (c.c4.map encI)], .arr 41 3 [[.i 1, .i 0, .i 0], [.i 3, .i 0, .i 0], [.i 4, .i 0, .i 0], [.i 11, .i 0, .i 0], [.i 12, .i ((c.c2.length : Int) + 1), .i 1]], .cells 41 [.i (exI jj c.c2.length).op, .i (exI jj c.c2.length).n, .i (exI jj c.c2.length).rel], .arr 41 3 (pR (c.c2 ++ [exI jj c.c2.length])), .arr 41 3 [[.i (exI jj c.c2.length).op, .i (exI jj c.c2.length).n, .i (exI jj c.c2.length).rel]], .arr 41 3 (pR (c.c2.set ii y))]) (.ret (.b false) (H0 ++ [.cells 30 [.rs 3 (c.c0.map encI), .rs 3 (c.c1.map encI), .os (H0.length + 6) 0 c.c2.length c.c2.length, .rs 3 (c.c3.map encI), .rs 3 (c.c4.map encI)], .cells 30 [.rs 3 (c.c0.map encI), .rs 3 (c.c1.map encI), .os (H0.length + 4) 0 (c.c2.length + 1) (c.c2.length + 1), .rs 3 (c.c3.map encI), .rs 3 (c.c4.map encI)], .arr 41 3 [[.i 1, .i 0, .i 0], [.i 3, .i 0, .i 0], [.i 4, .i 0, .i 0], [.i 11, .i 0, .i 0], [.i 12, .i ((c.c2.length : Int) + 1), .i 1]], .cells 41 [.i (exI jj c.c2.length).op, .i (exI jj c.c2.length).n, .i (exI jj c.c2.length).rel], .arr 41 3 (pR (c.c2 ++ [exI jj c.c2.length])), .arr 41 3 [[.i (exI jj c.c2.length).op, .i (exI jj c.c2.length).n, .i (exI jj c.c2.length).rel]], .arr 41 3 (pR (c.c2.set ii y))])) := by
        intro y hy
        have hb := verH_set hil hy
        have := ARun.lend (H := H0 ++ [.cells 30 [.rs 3 (c.c0.map encI), .rs 3 (c.c1.map encI), .os (H0.length + 6) 0 c.c2.length c.c2.length, .rs 3 (c.c3.map encI), .rs 3 (c.c4.map encI)], .cells 30 [.rs 3 (c.c0.map encI), .rs 3 (c.c1.map encI), .os (H0.length + 4) 0 (c.c2.length + 1) (c.c2.length + 1), .rs 3 (c.c3.map encI), .rs 3 (c.c4.map encI)], .arr 41 3 [[.i 1, .i 0, .i 0], [.i 3, .i 0, .i 0], [.i 4, .i 0, .i 0], [.i 11, .i 0, .i 0], [.i 12, .i ((c.c2.length : Int) + 1), .i 1]], .cells 41 [.i (exI jj c.c2.length).op, .i (exI jj c.c2.length).n, .i (exI jj c.c2.length).rel], .arr 41 3 (pR (c.c2 ++ [exI jj c.c2.length])), .arr 41 3 [[.i (exI jj c.c2.length).op, .i (exI jj c.c2.length).n, .i (exI jj c.c2.length).rel]], .arr 41 3 (pR (c.c2.set ii y))]) (args := [.agg [.rs 3 (c.c0.map encI), .rs 3 (c.c1.map encI), .os (H0.length + 6) 0 c.c2.length c.c2.length, .rs 3 (c.c3.map encI), .rs 3 (c.c4.map encI)], .i vars]) 1 (CVerify_run ⟨c.c0, c.c1, (c.c2.set ii y), c.c3, c.c4⟩ vars (by obtain ⟨f0, f1, f2, f3, f4⟩ := hcf; exact ⟨by (try simp only [List.length_append, List.length_cons, List.length_nil, List.length_set]); omega, by (try simp only [List.length_append, List.length_cons, List.length_nil, List.length_set]); omega, by (try simp only [List.length_append, List.length_cons, List.length_nil, List.length_set]); omega, by (try simp only [List.length_append, List.length_cons, List.length_nil, List.length_set]); omega, by (try simp only [List.length_append, List.length_cons, List.length_nil, List.length_set]); omega⟩) [])
          (by simp only [List.map_cons, List.map_nil, AV.low]; rw [if_neg (by omega), toPV_osm (m := 0) (k := 6) (Nat.zero_le _) rfl (by simp)]; exact ⟨Cv.refl _, Cv.refl _, trivial⟩) rfl
        rw [show verC ⟨c.c0, c.c1, (c.c2.set ii y), c.c3, c.c4⟩ vars = false by unfold verC; rw [hb]; simp] at this
        exact this
      clear v1 hbad hver hs hh
      by_cases o2 : op = 2 ∨ op = 11
      · have cH := cD ⟨op, vars, rel⟩ (insOk_bad2 o2 (.inl rfl))
        have cL := cD ⟨op, -1, rel⟩ (insOk_bad2 o2 (.inr rfl))
        clear cD
        rcases o2 with o2 | o2
        all_goals
          subst o2
          (have ww1 := lw; have ww2 := hw2; have ww3 := hii; have ww4 := gx; have ww5 := gS; have ww6 := s3; have ww7 := lS; have ww8 := l1; have ww9 := q1; have cc1 := cM; have cc2 := cH; have cc3 := cL; refine wkO ?_; clear ww1 ww2 ww3 ww4 ww5 ww6 ww7 ww8 ww9 cc1 cc2 cc3; (repeat' first | exact True.intro | refine Lf.mk ?_ ?_); all_goals intro hP)
          all_goals ((refine resX ?_; try exact True.intro))
      by_cases o3 : op = 3
      · subst o3
        have cH := cD ⟨3, 4, rel⟩ (insOk_bad3 (.inl rfl))
        have cL := cD ⟨3, -1, rel⟩ (insOk_bad3 (.inr rfl))
        clear cD
        (have ww1 := lw; have ww2 := hw2; have ww3 := hii; have ww4 := gx; have ww5 := gS; have ww6 := s3; have ww7 := lS; have ww8 := l1; have ww9 := q1; have cc1 := cM; have cc2 := cH; have cc3 := cL; refine wkO ?_; clear ww1 ww2 ww3 ww4 ww5 ww6 ww7 ww8 ww9 cc1 cc2 cc3; (repeat' first | exact True.intro | refine Lf.mk ?_ ?_); all_goals intro hP)
        all_goals ((refine resX ?_; try exact True.intro))
      by_cases o12 : op = 12 ∨ op = 13
      · have cH := cD ⟨op, (c.c2.length : Int) + 1, rel⟩ (insOk_bad12 o12 (.inl rfl))
        have cL := cD ⟨op, ii, rel⟩ (insOk_bad12 o12 (.inr rfl))
        clear cD
        rcases o12 with o12 | o12
        all_goals
          subst o12
          (have ww1 := lw; have ww2 := hw2; have ww3 := hii; have ww4 := gx; have ww5 := gS; have ww6 := s3; have ww7 := lS; have ww8 := l1; have ww9 := q1; have cc1 := cM; have cc2 := cH; have cc3 := cL; refine wkO ?_; clear ww1 ww2 ww3 ww4 ww5 ww6 ww7 ww8 ww9 cc1 cc2 cc3; (repeat' first | exact True.intro | refine Lf.mk ?_ ?_); all_goals intro hP)
          all_goals ((refine resX ?_; try exact True.intro))
      by_cases o1 : op = 1
      · subst o1
        have cH := cD ⟨1, -1000000000001, rel⟩ (insOk_bad1 (.inr rfl))
        have cL := cD ⟨1, 1000000000001, rel⟩ (insOk_bad1 (.inl rfl))
        clear cD
        (have ww1 := lw; have ww2 := hw2; have ww3 := hii; have ww4 := gx; have ww5 := gS; have ww6 := s3; have ww7 := lS; have ww8 := l1; have ww9 := q1; have cc1 := cM; have cc2 := cH; have cc3 := cL; refine wkO ?_; clear ww1 ww2 ww3 ww4 ww5 ww6 ww7 ww8 ww9 cc1 cc2 cc3; (repeat' first | exact True.intro | refine Lf.mk ?_ ?_); all_goals intro hP)
        all_goals ((refine resX ?_; try exact True.intro))
      · have cH := cD ⟨op, nn, 1⟩ (insOk_badR (fun h => o12 (.inl h)))
        clear cD
        (have ww1 := lw; have ww2 := hw2; have ww3 := hii; have ww4 := gx; have ww5 := gS; have ww6 := s3; have ww7 := lS; have ww8 := l1; have ww9 := q1; have cc1 := cM; have cc2 := cH; refine wkO ?_; clear ww1 ww2 ww3 ww4 ww5 ww6 ww7 ww8 ww9 cc1 cc2; (repeat' first | exact True.intro | refine Lf.mk ?_ ?_); all_goals intro hP)
        all_goals ((refine resX ?_; try exact True.intro))
  · simp only [List.forall_mem_cons, List.not_mem_nil, false_implies, implies_true, and_true, go_sem, Nat.reduceAdd, Nat.reduceSub, Nat.reduceMul, Nat.reduceLeDiff, Nat.reduceLT, Nat.reduceEqDiff, Int.reduceToNat, Int.reduceAdd, Int.reduceMul, Int.reduceSub, Int.reduceLT, Int.reduceLE, Int.reduceEq, Int.reduceNeg, Int.reduceBEq, Int.reduceBNe, ↓reduceIte, reduceCtorEq, pick, List.length_map, q1, l1, f1, f2, f3, f4]
    (have ww1 := lw; have ww2 := q1; have ww3 := p1; have ww4 := l1; have ww5 := f1; have ww6 := f2; have ww7 := f3; have ww8 := f4; refine wkS ?_; clear ww1 ww2 ww3 ww4 ww5 ww6 ww7 ww8; (repeat' first | exact True.intro | refine Lf.mk ?_ ?_); all_goals intro hP)
    all_goals (first | ((refine hW _ _ (Wk.perm0 [0, 1, 2, 3, 4, 5] (by decide) ?_ ?_)) <;> (simp only [PermL, FgtR, AObj.ren, AV.ren, AV.under, AObj.under, AL.perm_0, AL.perm_k, List.map_cons, List.map_nil, List.map_map, List.map_replicate, List.replicate_succ, List.getD_cons_zero, List.getD_cons_succ, List.getElem?_cons_zero, List.getElem?_cons_succ, List.length_cons, List.length_nil, Nat.add_zero, Nat.zero_add, Nat.reduceAdd, Nat.add_lt_add_iff_left, Nat.reduceLT, Nat.lt_add_right_iff_pos, List.forall_mem_cons, List.mem_cons, List.not_mem_nil, forall_eq_or_imp, forall_eq, false_implies, implies_true, reduceCtorEq, false_or, true_or, or_true, and_true, true_and, and_self, List.forall_mem_map, List.mem_map, forall_exists_index, and_imp, forall_apply_eq_imp_iff₂, Function.comp_def, renR, undR]) <;> (first | (intro a _ ha c hc; subst ha; simp only [List.mem_singleton] at hc; subst hc; simp only [AV.under]))) | ((refine hW _ _ (Wk.perm0 [0, 1, 2, 3, 5, 4] (by decide) ?_ ?_)) <;> (simp only [PermL, FgtR, AObj.ren, AV.ren, AV.under, AObj.under, AL.perm_0, AL.perm_k, List.map_cons, List.map_nil, List.map_map, List.map_replicate, List.replicate_succ, List.getD_cons_zero, List.getD_cons_succ, List.getElem?_cons_zero, List.getElem?_cons_succ, List.length_cons, List.length_nil, Nat.add_zero, Nat.zero_add, Nat.reduceAdd, Nat.add_lt_add_iff_left, Nat.reduceLT, Nat.lt_add_right_iff_pos, List.forall_mem_cons, List.mem_cons, List.not_mem_nil, forall_eq_or_imp, forall_eq, false_implies, implies_true, reduceCtorEq, false_or, true_or, or_true, and_true, true_and, and_self, List.forall_mem_map, List.mem_map, forall_exists_index, and_imp, forall_apply_eq_imp_iff₂, Function.comp_def, renR, undR]) <;> (first | (intro a _ ha c hc; subst ha; simp only [List.mem_singleton] at hc; subst hc; simp only [AV.under]))))
theorem CodeDamage_3 (c : Cod) (vars event at' how : Int) (h10 : 0 ≤ event) (h11 : event ≤ 255) (h20 : 0 ≤ at') (h21 : at' ≤ 65535) (h30 : 0 ≤ how) (h31 : how ≤ 255) (hkk : event.tmod 5 = 3) (hsh : shortS c 4000 = true) (hver : verC c vars = true) (H0 : List AObj) :
    ARun Try.prog 9 [agC c, .i vars, .pv (.sc (.int .u8 event)), .pv (.sc (.int .u16 at')), .pv (.sc (.int .u8 how))] H0 (.ret (.b true) H0) := by
  have hh := fun H0 => head9_run H0
  have hs := fun H0 => RShort9_run c 4000 H0
  have hw1 : IntKind.i64.wrap event = event := wrap_of (by omega) (by omega)
  have hw2 : IntKind.i64.wrap at' = at' := wrap_of (by omega) (by omega)
  have hw3 : IntKind.i64.wrap how = how := wrap_of (by omega) (by omega)
  simp only [hsh] at hs
  have hcf := shortS_fine hsh (by omega)
  have v1 := fun H0 => CVerify_run c vars hcf H0
  rw [hver] at v1
  have hvl : verH c.c3 vars = true := by
    simp only [verC, Bool.and_eq_true] at hver
    first | exact hver.2.2.2.2.1
  obtain ⟨jj, hjj, hj5⟩ : ∃ k : Nat, how.tmod 5 = (k : Int) ∧ k < 5 := ⟨(how.tmod 5).toNat, by rw [Int.tmod_eq_emod_of_nonneg h30]; omega, by rw [Int.tmod_eq_emod_of_nonneg h30]; omega⟩
  have g2 := getX (len := c.c3.length) jj hj5
  have b3 : (jj : Int) < 5 := by omega
  have hll : c.c3.length ≤ 4000 := by
    simp only [shortS, Bool.and_eq_true, decide_eq_true_eq] at hsh
    omega
  have lw : (c.c3.map encI).length = c.c3.length := List.length_map encI
  have wl : IntKind.i64.wrap ((c.c3.length : Int) + 1) = (c.c3.length : Int) + 1 := wrap_of (by omega) (by omega)
  have hbad := verH_snoc hvl (exI_bad jj c.c3.length)
  have cM := ARun.lend (H := H0 ++ [.cells 30 [.rs 3 (c.c0.map encI), .rs 3 (c.c1.map encI), .rs 3 (c.c2.map encI), .rs 3 (c.c3.map encI), .rs 3 (c.c4.map encI)], .cells 30 [.rs 3 (c.c0.map encI), .rs 3 (c.c1.map encI), .rs 3 (c.c2.map encI), .os (H0.length + 4) 0 (c.c3.length + 1) (c.c3.length + 1), .rs 3 (c.c4.map encI)], .arr 41 3 [[.i 1, .i 0, .i 0], [.i 3, .i 0, .i 0], [.i 4, .i 0, .i 0], [.i 11, .i 0, .i 0], [.i 12, .i ((c.c3.length : Int) + 1), .i 1]], .cells 41 [.i (exI jj c.c3.length).op, .i (exI jj c.c3.length).n, .i (exI jj c.c3.length).rel], .arr 41 3 (pR (c.c3 ++ [exI jj c.c3.length])), .arr 41 3 [[.i (exI jj c.c3.length).op, .i (exI jj c.c3.length).n, .i (exI jj c.c3.length).rel]]])
    (args := [.agg [.rs 3 (c.c0.map encI), .rs 3 (c.c1.map encI), .rs 3 (c.c2.map encI), .os (H0.length + 4) 0 (c.c3.length + 1) (c.c3.length + 1), .rs 3 (c.c4.map encI)], .i vars]) 1 (CVerify_run ⟨c.c0, c.c1, c.c2, (c.c3 ++ [exI jj c.c3.length]), c.c4⟩ vars (by obtain ⟨f0, f1, f2, f3, f4⟩ := hcf; exact ⟨by (try simp only [List.length_append, List.length_cons, List.length_nil, List.length_set]); omega, by (try simp only [List.length_append, List.length_cons, List.length_nil, List.length_set]); omega, by (try simp only [List.length_append, List.length_cons, List.length_nil, List.length_set]); omega, by (try simp only [List.length_append, List.length_cons, List.length_nil, List.length_set]); omega, by (try simp only [List.length_append, List.length_cons, List.length_nil, List.length_set]); omega⟩) [])
    (by simp only [List.map_cons, List.map_nil, AV.low]; rw [if_neg (by omega), toPV_osm (m := 0) (k := 4) (Nat.zero_le _) rfl (by simp)]; exact ⟨Cv.refl _, Cv.refl _, trivial⟩) rfl
  rw [show verC ⟨c.c0, c.c1, c.c2, (c.c3 ++ [exI jj c.c3.length]), c.c4⟩ vars = false by unfold verC; rw [hbad]; simp] at cM
  have q1 : (c.c3.map encI).map (fun r => r.map AV.pv) = pR c.c3 := rfl
  have p1 : pR c.c3 ++ [[.i (exI jj c.c3.length).op, .i (exI jj c.c3.length).n, .i (exI jj c.c3.length).rel]] = pR (c.c3 ++ [(exI jj c.c3.length)]) := pR_one c.c3 (exI jj c.c3.length).op (exI jj c.c3.length).n (exI jj c.c3.length).rel
  have l1 := pR_len c.c3
  have f1 : c.c3.length * 24 ≤ 140737488355328 := by omega
  have f2 : c.c3.length ≤ 9223372036854775807 := by omega
  have f3 : (c.c3.length + 1) * 24 ≤ 140737488355328 := by omega
  have f4 : c.c3.length + 1 ≤ 9223372036854775807 := by omega
  (refine ARun.intro Try.func9 rfl Try.call9 Try.ntmps9 Try.results9 ?_; simp only [List.length_cons, List.length_nil, List.length_map, Nat.reduceAdd, Nat.reduceSub, List.replicate_succ, List.replicate_zero, List.cons_append, List.nil_append])
  (have ww1 := hw1; have ww2 := hw2; have ww3 := hw3; have ww4 := hkk; have ww5 := hjj; have ww6 := b3; have ww7 := g2; have ww8 := lw; have ww9 := wl; have cc1 := fun z1 => hh z1; have cc2 := fun z1 => hs z1; have cc3 := fun z1 => v1 z1; refine wk ?_; clear ww1 ww2 ww3 ww4 ww5 ww6 ww7 ww8 ww9 cc1 cc2 cc3; (repeat' first | exact True.intro | refine Lf.mk ?_ ?_); all_goals intro hP)
  refine awp_drawnO_c (id := 8) [1, 6, 8, 9, 12] [([1, 6, 8, 9, 12], [0, 1, 2, 3, 4, 5, 6, 7, 8, 9, 10, 11, 12], [.win [0, 1, 2, 3, 4], .eff 0, .win [0, 1], .win [0, 1], .win [0, 1], .win [0, 1], .eff 1, .win [0, 1, 2], .eff 2, .eff 3, .win [0, 1, 2, 3, 4], .win [4], .eff 4]), ([1, 8, 6, 9, 12], [0, 1, 2, 3, 4, 5, 7, 8, 6, 9, 10, 11, 12], [.win [0, 1, 2, 3, 4], .eff 0, .win [0, 1, 2], .win [0, 1, 2], .win [0, 1, 2], .win [0, 1, 2], .eff 2, .win [0, 1], .eff 1, .eff 3, .win [0, 1, 2, 3, 4], .win [4], .eff 4]), ([8, 1, 6, 9, 12], [0, 2, 3, 4, 5, 7, 8, 1, 6, 9, 10, 11, 12], [.win [0, 1, 2, 3, 4], .eff 1, .win [0, 1, 2], .win [0, 1, 2], .win [0, 1, 2], .win [0, 1, 2], .eff 2, .win [0], .eff 0, .eff 3, .win [0, 1, 2, 3, 4], .win [4], .eff 4])] 5 rfl (by as_aux_lemma => kernel_rfl) ((.any :: .i vars :: .any :: .pv (.sc (.int .u16 at')) :: .pv (.sc (.int .u8 how)) :: .p H0.length 0 :: .any :: .any :: .any :: .any :: .any :: .b true :: .i 3 :: .p (H0.length + 1) 0 :: .any :: .any :: .any :: .any :: .any :: .any :: .any :: .any :: .any :: .any :: .any :: .any :: .any :: .any :: .any :: .any :: .any :: .any :: .any :: .any :: .any :: .any :: .any :: .any :: .any :: .any :: .any :: .any :: .any :: .any :: .any :: .any :: .any :: .any :: .any :: .any :: .any :: .any :: .any :: .any :: .any :: .any :: .any :: .any :: .any :: .any :: .any :: .any :: .any :: .any :: .any :: .any :: .any :: .any :: .any :: .any :: .any :: .any :: .any :: .any :: .any :: .any :: .any :: .any :: .any :: .any :: .any :: .any :: .any :: .any :: .any :: .any :: .any :: .any :: .any :: .any :: .any :: .any :: .any :: .any :: .any :: .any :: .any :: .any :: .any :: .any :: .any :: .any :: .any :: .any :: .any :: .any :: .any :: .any :: .any :: .any :: .any :: .any :: .any :: .any :: .any :: .any :: .any :: .any :: .any :: .any :: .any :: .any :: .any :: .any :: .any :: .any :: .any :: .any :: .any :: .any :: .any :: .any :: .any :: .any :: .any :: .any :: .any :: .any :: .any :: .any :: .any :: .any :: .any :: .any :: .any :: .any :: .any :: .any :: .any :: .any :: .any :: .any :: .any :: []))
    (H0 ++ [.cells 30 [.rs 3 (c.c0.map encI), .rs 3 (c.c1.map encI), .rs 3 (c.c2.map encI), .rs 3 (c.c3.map encI), .rs 3 (c.c4.map encI)], .cells 30 [.rs 3 (c.c0.map encI), .rs 3 (c.c1.map encI), .rs 3 (c.c2.map encI), .os (H0.length + 4) 0 (c.c3.length + 1) (c.c3.length + 1), .rs 3 (c.c4.map encI)], .arr 41 3 [[.i 1, .i 0, .i 0], [.i 3, .i 0, .i 0], [.i 4, .i 0, .i 0], [.i 11, .i 0, .i 0], [.i 12, .i ((c.c3.length : Int) + 1), .i 1]], .cells 41 [.i (exI jj c.c3.length).op, .i (exI jj c.c3.length).n, .i (exI jj c.c3.length).rel], .arr 41 3 (pR (c.c3 ++ [exI jj c.c3.length])), .arr 41 3 [[.i (exI jj c.c3.length).op, .i (exI jj c.c3.length).n, .i (exI jj c.c3.length).rel]]])
    (fun tm H wk h => by simp only [AEx.thn] at h ⊢; exact awp_wk wk h) ?_ (fun Kp W hW => ?_)
  · simp only [AEx.thn]
    by_cases h0 : c.c3.length = 0
    · (have ww1 := lw; have cc1 := cM; refine wkO ?_; clear ww1 cc1; (repeat' first | exact True.intro | refine Lf.mk ?_ ?_); all_goals intro hP)
      (refine resX ?_; try exact True.intro)
    · obtain ⟨ii, hii, hil⟩ : ∃ k : Nat, at'.tmod (c.c3.length : Int) = (k : Int) ∧ k < c.c3.length := by
        have h1 := Int.emod_nonneg at' (show (c.c3.length : Int) ≠ 0 by omega)
        have h2 := Int.emod_lt_of_pos at' (show (0 : Int) < c.c3.length by omega)
        refine ⟨(at'.tmod (c.c3.length : Int)).toNat, ?_, ?_⟩ <;> rw [Int.tmod_eq_emod_of_nonneg h20] <;> omega
      have hx : c.c3[ii]? = some c.c3[ii] := List.getElem?_eq_getElem hil
      have hok := verH_ok hvl hx
      have gx := pR_get hx
      have s3 := pR_set3
      have gS : ∀ y : Ins, (pR (c.c3.set ii y))[ii]? = some [.i y.op, .i y.n, .i y.rel] := fun y => pR_get (by simp [hil])
      have lS : ∀ y : Ins, (pR (c.c3.set ii y)).length = c.c3.length := fun y => by simp [pvRows]
      generalize c.c3[ii] = x at *
      obtain ⟨op, nn, rel⟩ := x
      simp only at gx
      have cD : ∀ y : Ins, insOk y ii c.c3.length vars = false → ARun Try.prog 16 [.agg [.rs 3 (c.c0.map encI), .rs 3 (c.c1.map encI), .rs 3 (c.c2.map encI), .os (H0.length + 6) 0 c.c3.length c.c3.length, .rs 3 (c.c4.map encI)], .i vars] (H0 ++ [.cells 30 [.rs 3 (c.c0.map encI), .rs 3 (c.c1.map encI), .rs 3 (c.c2.map encI), .os (H0.length + 6) 0 c.c3.length c.c3.length, .rs 3 (c.c4.map encI)], .cells 30 [.rs 3 (c.c0.map encI), .rs 3 (c.c1.map encI), .rs 3 (c.c2.map encI), .os (H0.length + 4) 0 (c.c3.length + 1) (c.c3.length + 1), .rs 3 (c.c4.map encI)], .arr 41 3 [[.i 1, .i 0, .i 0], [.i 3, .i 0, .i 0], [.i 4, .i 0, .i 0], [.i 11, .i 0, .i 0], [.i 12, .i ((c.c3.length : Int) + 1), .i 1]], .cells 41 [.i (exI jj c.c3.length).op, .i (exI jj c.c3.length).n, .i (exI jj c.c3.length).rel], .arr 41 3 (pR (c.c3 ++ [exI jj c.c3.length])), .arr 41 3 [[.i (exI jj c.c3.length).op, .i (exI jj c.c3.length).n, .i (exI jj c.c3.length).rel]], .arr 41 3 (pR (c.c3.set ii y))]) (.ret (.b false) (H0 ++ [.cells 30 [.rs 3 (c.c0.map encI), .rs 3 (c.c1.map encI), .rs 3 (c.c2.map encI), .os (H0.length + 6) 0 c.c3.length c.c3.length, .rs 3 (c.c4.map encI)], .cells 30 [.rs 3 (c.c0.map encI), .rs 3 (c.c1.map encI), .rs 3 (c.c2.map encI), .os (H0.length + 4) 0 (c.c3.length + 1) (c.c3.length + 1), .rs 3 (c.c4.map encI)], .arr 41 3 [[.i 1, .i 0, .i 0], [.i 3, .i 0, .i 0], [.i 4, .i 0, .i 0], [.i 11, .i 0, .i 0], [.i 12, .i ((c.c3.length : Int) + 1), .i 1]], .cells 41 [.i (exI jj c.c3.length).op, .i (exI jj c.c3.length).n, .i (exI jj c.c3.length).rel], .arr 41 3 (pR (c.c3 ++ [exI jj c.c3.length])), .arr 41 3 [[.i (exI jj c.c3.length).op, .i (exI jj c.c3.length).n, .i (exI jj c.c3.length).rel]], .arr 41 3 (pR (c.c3.set ii y))])) := by
        intro y hy
        have hb := verH_set hil hy
        have := ARun.lend (H := H0 ++ [.cells 30 [.rs 3 (c.c0.map encI), .rs 3 (c.c1.map encI), .rs 3 (c.c2.map encI), .os (H0.length + 6) 0 c.c3.length c.c3.length, .rs 3 (c.c4.map encI)], .cells 30 [.rs 3 (c.c0.map encI), .rs 3 (c.c1.map encI), .rs 3 (c.c2.map encI), .os (H0.length + 4) 0 (c.c3.length + 1) (c.c3.length + 1), .rs 3 (c.c4.map encI)], .arr 41 3 [[.i 1, .i 0, .i 0], [.i 3, .i 0, .i 0], [.i 4, .i 0, .i 0], [.i 11, .i 0, .i 0], [.i 12, .i ((c.c3.length : Int) + 1), .i 1]], .cells 41 [.i (exI jj c.c3.length).op, .i (exI jj c.c3.length).n, .i (exI jj c.c3.length).rel], .arr 41 3 (pR (c.c3 ++ [exI jj c.c3.length])), .arr 41 3 [[.i (exI jj c.c3.length).op, .i (exI jj c.c3.length).n, .i (exI jj c.c3.length).rel]], .arr 41 3 (pR (c.c3.set ii y))]) (args := [.agg [.rs 3 (c.c0.map encI), .rs 3 (c.c1.map encI), .rs 3 (c.c2.map encI), .os (H0.length + 6) 0 c.c3.length c.c3.length, .rs 3 (c.c4.map encI)], .i vars]) 1 (CVerify_run ⟨c.c0, c.c1, c.c2, (c.c3.set ii y), c.c4⟩ vars (by obtain ⟨f0, f1, f2, f3, f4⟩ := hcf; exact ⟨by (try simp only [List.length_append, List.length_cons, List.length_nil, List.length_set]); omega, by (try simp only [List.length_append, List.length_cons, List.length_nil, List.length_set]); omega, by (try simp only [List.length_append, List.length_cons, List.length_nil, List.length_set]); omega, by (try simp only [List.length_append, List.length_cons, List.length_nil, List.length_set]); omega, by (try simp only [List.length_append, List.length_cons, List.length_nil, List.length_set]); omega⟩) [])
          (by simp only [List.map_cons, List.map_nil, AV.low]; rw [if_neg (by omega), toPV_osm (m := 0) (k := 6) (Nat.zero_le _) rfl (by simp)]; exact ⟨Cv.refl _, Cv.refl _, trivial⟩) rfl
        rw [show verC ⟨c.c0, c.c1, c.c2, (c.c3.set ii y), c.c4⟩ vars = false by unfold verC; rw [hb]; simp] at this
        exact this
      clear v1 hbad hver hs hh
      by_cases o2 : op = 2 ∨ op = 11
      · have cH := cD ⟨op, vars, rel⟩ (insOk_bad2 o2 (.inl rfl))
        have cL := cD ⟨op, -1, rel⟩ (insOk_bad2 o2 (.inr rfl))
        clear cD
        rcases o2 with o2 | o2
        all_goals
          subst o2
          (have ww1 := lw; have ww2 := hw2; have ww3 := hii; have ww4 := gx; have ww5 := gS; have ww6 := s3; have ww7 := lS; have ww8 := l1; have ww9 := q1; have cc1 := cM; have cc2 := cH; have cc3 := cL; refine wkO ?_; clear ww1 ww2 ww3 ww4 ww5 ww6 ww7 ww8 ww9 cc1 cc2 cc3; (repeat' first | exact True.intro | refine Lf.mk ?_ ?_); all_goals intro hP)
          all_goals ((refine resX ?_; try exact True.intro))
      by_cases o3 : op = 3
      · subst o3
        have cH := cD ⟨3, 4, rel⟩ (insOk_bad3 (.inl rfl))
        have cL := cD ⟨3, -1, rel⟩ (insOk_bad3 (.inr rfl))
        clear cD
        (have ww1 := lw; have ww2 := hw2; have ww3 := hii; have ww4 := gx; have ww5 := gS; have ww6 := s3; have ww7 := lS; have ww8 := l1; have ww9 := q1; have cc1 := cM; have cc2 := cH; have cc3 := cL; refine wkO ?_; clear ww1 ww2 ww3 ww4 ww5 ww6 ww7 ww8 ww9 cc1 cc2 cc3; (repeat' first | exact True.intro | refine Lf.mk ?_ ?_); all_goals intro hP)
        all_goals ((refine resX ?_; try exact True.intro))
      by_cases o12 : op = 12 ∨ op = 13
      · have cH := cD ⟨op, (c.c3.length : Int) + 1, rel⟩ (insOk_bad12 o12 (.inl rfl))
        have cL := cD ⟨op, ii, rel⟩ (insOk_bad12 o12 (.inr rfl))
        clear cD
        rcases o12 with o12 | o12
        all_goals
          subst o12
          (have ww1 := lw; have ww2 := hw2; have ww3 := hii; have ww4 := gx; have ww5 := gS; have ww6 := s3; have ww7 := lS; have ww8 := l1; have ww9 := q1; have cc1 := cM; have cc2 := cH; have cc3 := cL; refine wkO ?_; clear ww1 ww2 ww3 ww4 ww5 ww6 ww7 ww8 ww9 cc1 cc2 cc3; (repeat' first | exact True.intro | refine Lf.mk ?_ ?_); all_goals intro hP)
          all_goals ((refine resX ?_; try exact True.intro))
      by_cases o1 : op = 1
      · subst o1
        have cH := cD ⟨1, -1000000000001, rel⟩ (insOk_bad1 (.inr rfl))
        have cL := cD ⟨1, 1000000000001, rel⟩ (insOk_bad1 (.inl rfl))
        clear cD
        (have ww1 := lw; have ww2 := hw2; have ww3 := hii; have ww4 := gx; have ww5 := gS; have ww6 := s3; have ww7 := lS; have ww8 := l1; have ww9 := q1; have cc1 := cM; have cc2 := cH; have cc3 := cL; refine wkO ?_; clear ww1 ww2 ww3 ww4 ww5 ww6 ww7 ww8 ww9 cc1 cc2 cc3; (repeat' first | exact True.intro | refine Lf.mk ?_ ?_); all_goals intro hP)
        all_goals ((refine resX ?_; try exact True.intro))
      · have cH := cD ⟨op, nn, 1⟩ (insOk_badR (fun h => o12 (.inl h)))
        clear cD
        (have ww1 := lw; have ww2 := hw2; have ww3 := hii; have ww4 := gx; have ww5 := gS; have ww6 := s3; have ww7 := lS; have ww8 := l1; have ww9 := q1; have cc1 := cM; have cc2 := cH; refine wkO ?_; clear ww1 ww2 ww3 ww4 ww5 ww6 ww7 ww8 ww9 cc1 cc2; (repeat' first | exact True.intro | refine Lf.mk ?_ ?_); all_goals intro hP)
        all_goals ((refine resX ?_; try exact True.intro))
  · simp only [List.forall_mem_cons, List.not_mem_nil, false_implies, implies_true, and_true, go_sem, Nat.reduceAdd, Nat.reduceSub, Nat.reduceMul, Nat.reduceLeDiff, Nat.reduceLT, Nat.reduceEqDiff, Int.reduceToNat, Int.reduceAdd, Int.reduceMul, Int.reduceSub, Int.reduceLT, Int.reduceLE, Int.reduceEq, Int.reduceNeg, Int.reduceBEq, Int.reduceBNe, ↓reduceIte, reduceCtorEq, pick, List.length_map, q1, l1, f1, f2, f3, f4]
    (have ww1 := lw; have ww2 := q1; have ww3 := p1; have ww4 := l1; have ww5 := f1; have ww6 := f2; have ww7 := f3; have ww8 := f4; refine wkS ?_; clear ww1 ww2 ww3 ww4 ww5 ww6 ww7 ww8; (repeat' first | exact True.intro | refine Lf.mk ?_ ?_); all_goals intro hP)
    all_goals (first | ((refine hW _ _ (Wk.perm0 [0, 1, 2, 3, 4, 5] (by decide) ?_ ?_)) <;> (simp only [PermL, FgtR, AObj.ren, AV.ren, AV.under, AObj.under, AL.perm_0, AL.perm_k, List.map_cons, List.map_nil, List.map_map, List.map_replicate, List.replicate_succ, List.getD_cons_zero, List.getD_cons_succ, List.getElem?_cons_zero, List.getElem?_cons_succ, List.length_cons, List.length_nil, Nat.add_zero, Nat.zero_add, Nat.reduceAdd, Nat.add_lt_add_iff_left, Nat.reduceLT, Nat.lt_add_right_iff_pos, List.forall_mem_cons, List.mem_cons, List.not_mem_nil, forall_eq_or_imp, forall_eq, false_implies, implies_true, reduceCtorEq, false_or, true_or, or_true, and_true, true_and, and_self, List.forall_mem_map, List.mem_map, forall_exists_index, and_imp, forall_apply_eq_imp_iff₂, Function.comp_def, renR, undR]) <;> (first | (intro a _ ha c hc; subst ha; simp only [List.mem_singleton] at hc; subst hc; simp only [AV.under]))) | ((refine hW _ _ (Wk.perm0 [0, 1, 2, 3, 5, 4] (by decide) ?_ ?_)) <;> (simp only [PermL, FgtR, AObj.ren, AV.ren, AV.under, AObj.under, AL.perm_0, AL.perm_k, List.map_cons, List.map_nil, List.map_map, List.map_replicate, List.replicate_succ, List.getD_cons_zero, List.getD_cons_succ, List.getElem?_cons_zero, List.getElem?_cons_succ, List.length_cons, List.length_nil, Nat.add_zero, Nat.zero_add, Nat.reduceAdd, Nat.add_lt_add_iff_left, Nat.reduceLT, Nat.lt_add_right_iff_pos, List.forall_mem_cons, List.mem_cons, List.not_mem_nil, forall_eq_or_imp, forall_eq, false_implies, implies_true, reduceCtorEq, false_or, true_or, or_true, and_true, true_and, and_self, List.forall_mem_map, List.mem_map, forall_exists_index, and_imp, forall_apply_eq_imp_iff₂, Function.comp_def, renR, undR]) <;> (first | (intro a _ ha c hc; subst ha; simp only [List.mem_singleton] at hc; subst hc; simp only [AV.under]))))
theorem CodeDamage_4 (c : Cod) (vars event at' how : Int) (h10 : 0 ≤ event) (h11 : event ≤ 255) (h20 : 0 ≤ at') (h21 : at' ≤ 65535) (h30 : 0 ≤ how) (h31 : how ≤ 255) (hkk : event.tmod 5 = 4) (hsh : shortS c 4000 = true) (hver : verC c vars = true) (H0 : List AObj) :
    ARun Try.prog 9 [agC c, .i vars, .pv (.sc (.int .u8 event)), .pv (.sc (.int .u16 at')), .pv (.sc (.int .u8 how))] H0 (.ret (.b true) H0) := by
  have hh := fun H0 => head9_run H0
  have hs := fun H0 => RShort9_run c 4000 H0
  have hw1 : IntKind.i64.wrap event = event := wrap_of (by omega) (by omega)
  have hw2 : IntKind.i64.wrap at' = at' := wrap_of (by omega) (by omega)
  have hw3 : IntKind.i64.wrap how = how := wrap_of (by omega) (by omega)
  simp only [hsh] at hs
  have hcf := shortS_fine hsh (by omega)
  have v1 := fun H0 => CVerify_run c vars hcf H0
  rw [hver] at v1
  have hvl : verH c.c4 vars = true := by
    simp only [verC, Bool.and_eq_true] at hver
    first | exact hver.2.2.2.2.2
  obtain ⟨jj, hjj, hj5⟩ : ∃ k : Nat, how.tmod 5 = (k : Int) ∧ k < 5 := ⟨(how.tmod 5).toNat, by rw [Int.tmod_eq_emod_of_nonneg h30]; omega, by rw [Int.tmod_eq_emod_of_nonneg h30]; omega⟩
  have g2 := getX (len := c.c4.length) jj hj5
  have b3 : (jj : Int) < 5 := by omega
  have hll : c.c4.length ≤ 4000 := by
    simp only [shortS, Bool.and_eq_true, decide_eq_true_eq] at hsh
    omega
  have lw : (c.c4.map encI).length = c.c4.length := List.length_map encI
  have wl : IntKind.i64.wrap ((c.c4.length : Int) + 1) = (c.c4.length : Int) + 1 := wrap_of (by omega) (by omega)
  have hbad := verH_snoc hvl (exI_bad jj c.c4.length)
  have cM := ARun.lend (H := H0 ++ [.cells 30 [.rs 3 (c.c0.map encI), .rs 3 (c.c1.map encI), .rs 3 (c.c2.map encI), .rs 3 (c.c3.map encI), .rs 3 (c.c4.map encI)], .cells 30 [.rs 3 (c.c0.map encI), .rs 3 (c.c1.map encI), .rs 3 (c.c2.map encI), .rs 3 (c.c3.map encI), .os (H0.length + 4) 0 (c.c4.length + 1) (c.c4.length + 1)], .arr 41 3 [[.i 1, .i 0, .i 0], [.i 3, .i 0, .i 0], [.i 4, .i 0, .i 0], [.i 11, .i 0, .i 0], [.i 12, .i ((c.c4.length : Int) + 1), .i 1]], .cells 41 [.i (exI jj c.c4.length).op, .i (exI jj c.c4.length).n, .i (exI jj c.c4.length).rel], .arr 41 3 (pR (c.c4 ++ [exI jj c.c4.length])), .arr 41 3 [[.i (exI jj c.c4.length).op, .i (exI jj c.c4.length).n, .i (exI jj c.c4.length).rel]]])
    (args := [.agg [.rs 3 (c.c0.map encI), .rs 3 (c.c1.map encI), .rs 3 (c.c2.map encI), .rs 3 (c.c3.map encI), .os (H0.length + 4) 0 (c.c4.length + 1) (c.c4.length + 1)], .i vars]) 1 (CVerify_run ⟨c.c0, c.c1, c.c2, c.c3, (c.c4 ++ [exI jj c.c4.length])⟩ vars (by obtain ⟨f0, f1, f2, f3, f4⟩ := hcf; exact ⟨by (try simp only [List.length_append, List.length_cons, List.length_nil, List.length_set]); omega, by (try simp only [List.length_append, List.length_cons, List.length_nil, List.length_set]); omega, by (try simp only [List.length_append, List.length_cons, List.length_nil, List.length_set]); omega, by (try simp only [List.length_append, List.length_cons, List.length_nil, List.length_set]); omega, by (try simp only [List.length_append, List.length_cons, List.length_nil, List.length_set]); omega⟩) [])
    (by simp only [List.map_cons, List.map_nil, AV.low]; rw [if_neg (by omega), toPV_osm (m := 0) (k := 4) (Nat.zero_le _) rfl (by simp)]; exact ⟨Cv.refl _, Cv.refl _, trivial⟩) rfl
  rw [show verC ⟨c.c0, c.c1, c.c2, c.c3, (c.c4 ++ [exI jj c.c4.length])⟩ vars = false by unfold verC; rw [hbad]; simp] at cM
  have q1 : (c.c4.map encI).map (fun r => r.map AV.pv) = pR c.c4 := rfl
  have p1 : pR c.c4 ++ [[.i (exI jj c.c4.length).op, .i (exI jj c.c4.length).n, .i (exI jj c.c4.length).rel]] = pR (c.c4 ++ [(exI jj c.c4.length)]) := pR_one c.c4 (exI jj c.c4.length).op (exI jj c.c4.length).n (exI jj c.c4.length).rel
  have l1 := pR_len c.c4
  have f1 : c.c4.length * 24 ≤ 140737488355328 := by omega
  have f2 : c.c4.length ≤ 9223372036854775807 := by omega
  have f3 : (c.c4.length + 1) * 24 ≤ 140737488355328 := by omega
  have f4 : c.c4.length + 1 ≤ 9223372036854775807 := by omega
  (refine ARun.intro Try.func9 rfl Try.call9 Try.ntmps9 Try.results9 ?_; simp only [List.length_cons, List.length_nil, List.length_map, Nat.reduceAdd, Nat.reduceSub, List.replicate_succ, List.replicate_zero, List.cons_append, List.nil_append])
  (have ww1 := hw1; have ww2 := hw2; have ww3 := hw3; have ww4 := hkk; have ww5 := hjj; have ww6 := b3; have ww7 := g2; have ww8 := lw; have ww9 := wl; have cc1 := fun z1 => hh z1; have cc2 := fun z1 => hs z1; have cc3 := fun z1 => v1 z1; refine wk ?_; clear ww1 ww2 ww3 ww4 ww5 ww6 ww7 ww8 ww9 cc1 cc2 cc3; (repeat' first | exact True.intro | refine Lf.mk ?_ ?_); all_goals intro hP)
  refine awp_drawnO_c (id := 8) [1, 6, 8, 9, 12] [([1, 6, 8, 9, 12], [0, 1, 2, 3, 4, 5, 6, 7, 8, 9, 10, 11, 12], [.win [0, 1, 2, 3, 4], .eff 0, .win [0, 1], .win [0, 1], .win [0, 1], .win [0, 1], .eff 1, .win [0, 1, 2], .eff 2, .eff 3, .win [0, 1, 2, 3, 4], .win [4], .eff 4]), ([1, 8, 6, 9, 12], [0, 1, 2, 3, 4, 5, 7, 8, 6, 9, 10, 11, 12], [.win [0, 1, 2, 3, 4], .eff 0, .win [0, 1, 2], .win [0, 1, 2], .win [0, 1, 2], .win [0, 1, 2], .eff 2, .win [0, 1], .eff 1, .eff 3, .win [0, 1, 2, 3, 4], .win [4], .eff 4]), ([8, 1, 6, 9, 12], [0, 2, 3, 4, 5, 7, 8, 1, 6, 9, 10, 11, 12], [.win [0, 1, 2, 3, 4], .eff 1, .win [0, 1, 2], .win [0, 1, 2], .win [0, 1, 2], .win [0, 1, 2], .eff 2, .win [0], .eff 0, .eff 3, .win [0, 1, 2, 3, 4], .win [4], .eff 4])] 5 rfl (by as_aux_lemma => kernel_rfl) ((.any :: .i vars :: .any :: .pv (.sc (.int .u16 at')) :: .pv (.sc (.int .u8 how)) :: .p H0.length 0 :: .any :: .any :: .any :: .any :: .any :: .b true :: .i 4 :: .p (H0.length + 1) 0 :: .any :: .any :: .any :: .any :: .any :: .any :: .any :: .any :: .any :: .any :: .any :: .any :: .any :: .any :: .any :: .any :: .any :: .any :: .any :: .any :: .any :: .any :: .any :: .any :: .any :: .any :: .any :: .any :: .any :: .any :: .any :: .any :: .any :: .any :: .any :: .any :: .any :: .any :: .any :: .any :: .any :: .any :: .any :: .any :: .any :: .any :: .any :: .any :: .any :: .any :: .any :: .any :: .any :: .any :: .any :: .any :: .any :: .any :: .any :: .any :: .any :: .any :: .any :: .any :: .any :: .any :: .any :: .any :: .any :: .any :: .any :: .any :: .any :: .any :: .any :: .any :: .any :: .any :: .any :: .any :: .any :: .any :: .any :: .any :: .any :: .any :: .any :: .any :: .any :: .any :: .any :: .any :: .any :: .any :: .any :: .any :: .any :: .any :: .any :: .any :: .any :: .any :: .any :: .any :: .any :: .any :: .any :: .any :: .any :: .any :: .any :: .any :: .any :: .any :: .any :: .any :: .any :: .any :: .any :: .any :: .any :: .any :: .any :: .any :: .any :: .any :: .any :: .any :: .any :: .any :: .any :: .any :: .any :: .any :: .any :: .any :: .any :: .any :: .any :: []))
    (H0 ++ [.cells 30 [.rs 3 (c.c0.map encI), .rs 3 (c.c1.map encI), .rs 3 (c.c2.map encI), .rs 3 (c.c3.map encI), .rs 3 (c.c4.map encI)], .cells 30 [.rs 3 (c.c0.map encI), .rs 3 (c.c1.map encI), .rs 3 (c.c2.map encI), .rs 3 (c.c3.map encI), .os (H0.length + 4) 0 (c.c4.length + 1) (c.c4.length + 1)], .arr 41 3 [[.i 1, .i 0, .i 0], [.i 3, .i 0, .i 0], [.i 4, .i 0, .i 0], [.i 11, .i 0, .i 0], [.i 12, .i ((c.c4.length : Int) + 1), .i 1]], .cells 41 [.i (exI jj c.c4.length).op, .i (exI jj c.c4.length).n, .i (exI jj c.c4.length).rel], .arr 41 3 (pR (c.c4 ++ [exI jj c.c4.length])), .arr 41 3 [[.i (exI jj c.c4.length).op, .i (exI jj c.c4.length).n, .i (exI jj c.c4.length).rel]]])
    (fun tm H wk h => by simp only [AEx.thn] at h ⊢; exact awp_wk wk h) ?_ (fun Kp W hW => ?_)
  · simp only [AEx.thn]
    by_cases h0 : c.c4.length = 0
    · (have ww1 := lw; have cc1 := cM; refine wkO ?_; clear ww1 cc1; (repeat' first | exact True.intro | refine Lf.mk ?_ ?_); all_goals intro hP)
      (refine resX ?_; try exact True.intro)
    · obtain ⟨ii, hii, hil⟩ : ∃ k : Nat, at'.tmod (c.c4.length : Int) = (k : Int) ∧ k < c.c4.length := by
        have h1 := Int.emod_nonneg at' (show (c.c4.length : Int) ≠ 0 by omega)
        have h2 := Int.emod_lt_of_pos at' (show (0 : Int) < c.c4.length by omega)
        refine ⟨(at'.tmod (c.c4.length : Int)).toNat, ?_, ?_⟩ <;> rw [Int.tmod_eq_emod_of_nonneg h20] <;> omega
      have hx : c.c4[ii]? = some c.c4[ii] := List.getElem?_eq_getElem hil
      have hok := verH_ok hvl hx
      have gx := pR_get hx
      have s3 := pR_set3
      have gS : ∀ y : Ins, (pR (c.c4.set ii y))[ii]? = some [.i y.op, .i y.n, .i y.rel] := fun y => pR_get (by simp [hil])
      have lS : ∀ y : Ins, (pR (c.c4.set ii y)).length = c.c4.length := fun y => by simp [pvRows]
      generalize c.c4[ii] = x at *
      obtain ⟨op, nn, rel⟩ := x
      simp only at gx
      have cD : ∀ y : Ins, insOk y ii c.c4.length vars = false → ARun Try.prog 16 [.agg [.rs 3 (c.c0.map encI), .rs 3 (c.c1.map encI), .rs 3 (c.c2.map encI), .rs 3 (c.c3.map encI), .os (H0.length + 6) 0 c.c4.length c.c4.length], .i vars] (H0 ++ [.cells 30 [.rs 3 (c.c0.map encI), .rs 3 (c.c1.map encI), .rs 3 (c.c2.map encI), .rs 3 (c.c3.map encI), .os (H0.length + 6) 0 c.c4.length c.c4.length], .cells 30 [.rs 3 (c.c0.map encI), .rs 3 (c.c1.map encI), .rs 3 (c.c2.map encI), .rs 3 (c.c3.map encI), .os (H0.length + 4) 0 (c.c4.length + 1) (c.c4.length + 1)], .arr 41 3 [[.i 1, .i 0, .i 0], [.i 3, .i 0, .i 0], [.i 4, .i 0, .i 0], [.i 11, .i 0, .i 0], [.i 12, .i ((c.c4.length : Int) + 1), .i 1]], .cells 41 [.i (exI jj c.c4.length).op, .i (exI jj c.c4.length).n, .i (exI jj c.c4.length).rel], .arr 41 3 (pR (c.c4 ++ [exI jj c.c4.length])), .arr 41 3 [[.i (exI jj c.c4.length).op, .i (exI jj c.c4.length).n, .i (exI jj c.c4.length).rel]], .arr 41 3 (pR (c.c4.set ii y))]) (.ret (.b false) (H0 ++ [.cells 30 [.rs 3 (c.c0.map encI), .rs 3 (c.c1.map encI), .rs 3 (c.c2.map encI), .rs 3 (c.c3.map encI), .os (H0.length + 6) 0 c.c4.length c.c4.length], .cells 30 [.rs 3 (c.c0.map encI), .rs 3 (c.c1.map encI), .rs 3 (c.c2.map encI), .rs 3 (c.c3.map encI), .os (H0.length + 4) 0 (c.c4.length + 1) (c.c4.length + 1)], .arr 41 3 [[.i 1, .i 0, .i 0], [.i 3, .i 0, .i 0], [.i 4, .i 0, .i 0], [.i 11, .i 0, .i 0], [.i 12, .i ((c.c4.length : Int) + 1), .i 1]], .cells 41 [.i (exI jj c.c4.length).op, .i (exI jj c.c4.length).n, .i (exI jj c.c4.length).rel], .arr 41 3 (pR (c.c4 ++ [exI jj c.c4.length])), .arr 41 3 [[.i (exI jj c.c4.length).op, .i (exI jj c.c4.length).n, .i (exI jj c.c4.length).rel]], .arr 41 3 (pR (c.c4.set ii y))])) := by
        intro y hy
        have hb := verH_set hil hy
        have := ARun.lend (H := H0 ++ [.cells 30 [.rs 3 (c.c0.map encI), .rs 3 (c.c1.map encI), .rs 3 (c.c2.map encI), .rs 3 (c.c3.map encI), .os (H0.length + 6) 0 c.c4.length c.c4.length], .cells 30 [.rs 3 (c.c0.map encI), .rs 3 (c.c1.map encI), .rs 3 (c.c2.map encI), .rs 3 (c.c3.map encI), .os (H0.length + 4) 0 (c.c4.length + 1) (c.c4.length + 1)], .arr 41 3 [[.i 1, .i 0, .i 0], [.i 3, .i 0, .i 0], [.i 4, .i 0, .i 0], [.i 11, .i 0, .i 0], [.i 12, .i ((c.c4.length : Int) + 1), .i 1]], .cells 41 [.i (exI jj c.c4.length).op, .i (exI jj c.c4.length).n, .i (exI jj c.c4.length).rel], .arr 41 3 (pR (c.c4 ++ [exI jj c.c4.length])), .arr 41 3 [[.i (exI jj c.c4.length).op, .i (exI jj c.c4.length).n, .i (exI jj c.c4.length).rel]], .arr 41 3 (pR (c.c4.set ii y))]) (args := [.agg [.rs 3 (c.c0.map encI), .rs 3 (c.c1.map encI), .rs 3 (c.c2.map encI), .rs 3 (c.c3.map encI), .os (H0.length + 6) 0 c.c4.length c.c4.length], .i vars]) 1 (CVerify_run ⟨c.c0, c.c1, c.c2, c.c3, (c.c4.set ii y)⟩ vars (by obtain ⟨f0, f1, f2, f3, f4⟩ := hcf; exact ⟨by (try simp only [List.length_append, List.length_cons, List.length_nil, List.length_set]); omega, by (try simp only [List.length_append, List.length_cons, List.length_nil, List.length_set]); omega, by (try simp only [List.length_append, List.length_cons, List.length_nil, List.length_set]); omega, by (try simp only [List.length_append, List.length_cons, List.length_nil, List.length_set]); omega, by (try simp only [List.length_append, List.length_cons, List.length_nil, List.length_set]); omega⟩) [])
          (by simp only [List.map_cons, List.map_nil, AV.low]; rw [if_neg (by omega), toPV_osm (m := 0) (k := 6) (Nat.zero_le _) rfl (by simp)]; exact ⟨Cv.refl _, Cv.refl _, trivial⟩) rfl
        rw [show verC ⟨c.c0, c.c1, c.c2, c.c3, (c.c4.set ii y)⟩ vars = false by unfold verC; rw [hb]; simp] at this
        exact this
      clear v1 hbad hver hs hh
      by_cases o2 : op = 2 ∨ op = 11
      · have cH := cD ⟨op, vars, rel⟩ (insOk_bad2 o2 (.inl rfl))
        have cL := cD ⟨op, -1, rel⟩ (insOk_bad2 o2 (.inr rfl))
        clear cD
        rcases o2 with o2 | o2
        all_goals
          subst o2
          (have ww1 := lw; have ww2 := hw2; have ww3 := hii; have ww4 := gx; have ww5 := gS; have ww6 := s3; have ww7 := lS; have ww8 := l1; have ww9 := q1; have cc1 := cM; have cc2 := cH; have cc3 := cL; refine wkO ?_; clear ww1 ww2 ww3 ww4 ww5 ww6 ww7 ww8 ww9 cc1 cc2 cc3; (repeat' first | exact True.intro | refine Lf.mk ?_ ?_); all_goals intro hP)
          all_goals ((refine resX ?_; try exact True.intro))
      by_cases o3 : op = 3
      · subst o3
        have cH := cD ⟨3, 4, rel⟩ (insOk_bad3 (.inl rfl))
        have cL := cD ⟨3, -1, rel⟩ (insOk_bad3 (.inr rfl))
        clear cD
        (have ww1 := lw; have ww2 := hw2; have ww3 := hii; have ww4 := gx; have ww5 := gS; have ww6 := s3; have ww7 := lS; have ww8 := l1; have ww9 := q1; have cc1 := cM; have cc2 := cH; have cc3 := cL; refine wkO ?_; clear ww1 ww2 ww3 ww4 ww5 ww6 ww7 ww8 ww9 cc1 cc2 cc3; (repeat' first | exact True.intro | refine Lf.mk ?_ ?_); all_goals intro hP)
        all_goals ((refine resX ?_; try exact True.intro))
      by_cases o12 : op = 12 ∨ op = 13
      · have cH := cD ⟨op, (c.c4.length : Int) + 1, rel⟩ (insOk_bad12 o12 (.inl rfl))
        have cL := cD ⟨op, ii, rel⟩ (insOk_bad12 o12 (.inr rfl))
        clear cD
        rcases o12 with o12 | o12
        all_goals
          subst o12
          (have ww1 := lw; have ww2 := hw2; have ww3 := hii; have ww4 := gx; have ww5 := gS; have ww6 := s3; have ww7 := lS; have ww8 := l1; have ww9 := q1; have cc1 := cM; have cc2 := cH; have cc3 := cL; refine wkO ?_; clear ww1 ww2 ww3 ww4 ww5 ww6 ww7 ww8 ww9 cc1 cc2 cc3; (repeat' first | exact True.intro | refine Lf.mk ?_ ?_); all_goals intro hP)
          all_goals ((refine resX ?_; try exact True.intro))
      by_cases o1 : op = 1
      · subst o1
        have cH := cD ⟨1, -1000000000001, rel⟩ (insOk_bad1 (.inr rfl))
        have cL := cD ⟨1, 1000000000001, rel⟩ (insOk_bad1 (.inl rfl))
        clear cD
        (have ww1 := lw; have ww2 := hw2; have ww3 := hii; have ww4 := gx; have ww5 := gS; have ww6 := s3; have ww7 := lS; have ww8 := l1; have ww9 := q1; have cc1 := cM; have cc2 := cH; have cc3 := cL; refine wkO ?_; clear ww1 ww2 ww3 ww4 ww5 ww6 ww7 ww8 ww9 cc1 cc2 cc3; (repeat' first | exact True.intro | refine Lf.mk ?_ ?_); all_goals intro hP)
        all_goals ((refine resX ?_; try exact True.intro))
      · have cH := cD ⟨op, nn, 1⟩ (insOk_badR (fun h => o12 (.inl h)))
        clear cD
        (have ww1 := lw; have ww2 := hw2; have ww3 := hii; have ww4 := gx; have ww5 := gS; have ww6 := s3; have ww7 := lS; have ww8 := l1; have ww9 := q1; have cc1 := cM; have cc2 := cH; refine wkO ?_; clear ww1 ww2 ww3 ww4 ww5 ww6 ww7 ww8 ww9 cc1 cc2; (repeat' first | exact True.intro | refine Lf.mk ?_ ?_); all_goals intro hP)
        all_goals ((refine resX ?_; try exact True.intro))
  · simp only [List.forall_mem_cons, List.not_mem_nil, false_implies, implies_true, and_true, go_sem, Nat.reduceAdd, Nat.reduceSub, Nat.reduceMul, Nat.reduceLeDiff, Nat.reduceLT, Nat.reduceEqDiff, Int.reduceToNat, Int.reduceAdd, Int.reduceMul, Int.reduceSub, Int.reduceLT, Int.reduceLE, Int.reduceEq, Int.reduceNeg, Int.reduceBEq, Int.reduceBNe, ↓reduceIte, reduceCtorEq, pick, List.length_map, q1, l1, f1, f2, f3, f4]
    (have ww1 := lw; have ww2 := q1; have ww3 := p1; have ww4 := l1; have ww5 := f1; have ww6 := f2; have ww7 := f3; have ww8 := f4; refine wkS ?_; clear ww1 ww2 ww3 ww4 ww5 ww6 ww7 ww8; (repeat' first | exact True.intro | refine Lf.mk ?_ ?_); all_goals intro hP)
    all_goals (first | ((refine hW _ _ (Wk.perm0 [0, 1, 2, 3, 4, 5] (by decide) ?_ ?_)) <;> (simp only [PermL, FgtR, AObj.ren, AV.ren, AV.under, AObj.under, AL.perm_0, AL.perm_k, List.map_cons, List.map_nil, List.map_map, List.map_replicate, List.replicate_succ, List.getD_cons_zero, List.getD_cons_succ, List.getElem?_cons_zero, List.getElem?_cons_succ, List.length_cons, List.length_nil, Nat.add_zero, Nat.zero_add, Nat.reduceAdd, Nat.add_lt_add_iff_left, Nat.reduceLT, Nat.lt_add_right_iff_pos, List.forall_mem_cons, List.mem_cons, List.not_mem_nil, forall_eq_or_imp, forall_eq, false_implies, implies_true, reduceCtorEq, false_or, true_or, or_true, and_true, true_and, and_self, List.forall_mem_map, List.mem_map, forall_exists_index, and_imp, forall_apply_eq_imp_iff₂, Function.comp_def, renR, undR]) <;> (first | (intro a _ ha c hc; subst ha; simp only [List.mem_singleton] at hc; subst hc; simp only [AV.under]))) | ((refine hW _ _ (Wk.perm0 [0, 1, 2, 3, 5, 4] (by decide) ?_ ?_)) <;> (simp only [PermL, FgtR, AObj.ren, AV.ren, AV.under, AObj.under, AL.perm_0, AL.perm_k, List.map_cons, List.map_nil, List.map_map, List.map_replicate, List.replicate_succ, List.getD_cons_zero, List.getD_cons_succ, List.getElem?_cons_zero, List.getElem?_cons_succ, List.length_cons, List.length_nil, Nat.add_zero, Nat.zero_add, Nat.reduceAdd, Nat.add_lt_add_iff_left, Nat.reduceLT, Nat.lt_add_right_iff_pos, List.forall_mem_cons, List.mem_cons, List.not_mem_nil, forall_eq_or_imp, forall_eq, false_implies, implies_true, reduceCtorEq, false_or, true_or, or_true, and_true, true_and, and_self, List.forall_mem_map, List.mem_map, forall_exists_index, and_imp, forall_apply_eq_imp_iff₂, Function.comp_def, renR, undR]) <;> (first | (intro a _ ha c hc; subst ha; simp only [List.mem_singleton] at hc; subst hc; simp only [AV.under]))))
theorem CodeDamage_run (c : Cod) (vars event at' how : Int) (h10 : 0 ≤ event) (h11 : event ≤ 255) (h20 : 0 ≤ at') (h21 : at' ≤ 65535) (h30 : 0 ≤ how) (h31 : how ≤ 255) (H0 : List AObj) :
    ARun Try.prog 9 [agC c, .i vars, .pv (.sc (.int .u8 event)), .pv (.sc (.int .u16 at')), .pv (.sc (.int .u8 how))] H0 (.ret (.b true) H0) := by
  have hk : event.tmod 5 = 0 ∨ event.tmod 5 = 1 ∨ event.tmod 5 = 2 ∨ event.tmod 5 = 3 ∨ event.tmod 5 = 4 := by rw [Int.tmod_eq_emod_of_nonneg h10]; omega
  have hh := fun H0 => head9_run H0
  have hs := fun H0 => RShort9_run c 4000 H0
  have hw1 : IntKind.i64.wrap event = event := wrap_of (by omega) (by omega)
  cases hsh : shortS c 4000 with
  | false =>
    simp only [hsh] at hs
    (refine ARun.intro Try.func9 rfl Try.call9 Try.ntmps9 Try.results9 ?_; simp only [List.length_cons, List.length_nil, List.length_map, Nat.reduceAdd, Nat.reduceSub, List.replicate_succ, List.replicate_zero, List.cons_append, List.nil_append])
    (have ww1 := hw1; have cc1 := fun z1 => hh z1; have cc2 := fun z1 => hs z1; refine wk ?_; clear ww1 cc1 cc2; (repeat' first | exact True.intro | refine Lf.mk ?_ ?_); all_goals intro hP)
    (refine resX ?_; try exact True.intro)
  | true =>
    cases hver : verC c vars with
    | false =>
      simp only [hsh] at hs
      have v1 := fun H0 => CVerify_run c vars (shortS_fine hsh (by omega)) H0
      rw [hver] at v1
      (refine ARun.intro Try.func9 rfl Try.call9 Try.ntmps9 Try.results9 ?_; simp only [List.length_cons, List.length_nil, List.length_map, Nat.reduceAdd, Nat.reduceSub, List.replicate_succ, List.replicate_zero, List.cons_append, List.nil_append])
      (have ww1 := hw1; have cc1 := fun z1 => hh z1; have cc2 := fun z1 => hs z1; have cc3 := fun z1 => v1 z1; refine wk ?_; clear ww1 cc1 cc2 cc3; (repeat' first | exact True.intro | refine Lf.mk ?_ ?_); all_goals intro hP)
      (refine resX ?_; try exact True.intro)
    | true =>
      rcases hk with hk | hk | hk | hk | hk
      · exact CodeDamage_0 c vars event at' how h10 h11 h20 h21 h30 h31 hk hsh hver H0
      · exact CodeDamage_1 c vars event at' how h10 h11 h20 h21 h30 h31 hk hsh hver H0
      · exact CodeDamage_2 c vars event at' how h10 h11 h20 h21 h30 h31 hk hsh hver H0
      · exact CodeDamage_3 c vars event at' how h10 h11 h20 h21 h30 h31 hk hsh hver H0
      · exact CodeDamage_4 c vars event at' how h10 h11 h20 h21 h30 h31 hk hsh hver H0
end Go.Proofs.Ytiifbdkedainnaa.Y

namespace Go.Proofs.Ytiifbdkedainnaa.Y
open Go.Proofs.Ytiifbdkedainnaa.AL Go.Proofs Go
attribute [local irreducible] AWP AWL AWG AWR AWE AWX AWO AWSeq AWSG AWSR AWSO AWSE AWSF GoodP OGW OGR OGE OGX PGW PGR PGE Wk AWLoop AWPD AWLD
abbrev bk (H : Type) (d : DataW H) : Nat := Go.Proofs.Ytiifbdkedainnaa.Rows.uptoBulk d
abbrev bkl (H : Type) (d : List (DataW H)) : Nat := Go.Proofs.Ytiifbdkedainnaa.Rows.uptoBulkAll d
theorem bulk : Bulk bk bkl where
  lit := fun H l => by cases l <;> simp [bk, Go.Proofs.Ytiifbdkedainnaa.Rows.uptoBulk]
  str := fun H b => by simp [bk, Go.Proofs.Ytiifbdkedainnaa.Rows.uptoBulk]
  nil := fun H => by simp [bk, Go.Proofs.Ytiifbdkedainnaa.Rows.uptoBulk]
  slice := fun H es sp => by simp [bk, bkl, Go.Proofs.Ytiifbdkedainnaa.Rows.uptoBulk]
  agg := fun H ps => by simp [bk, bkl, Go.Proofs.Ytiifbdkedainnaa.Rows.uptoBulk]
  lnil := fun H => by simp [bkl, Go.Proofs.Ytiifbdkedainnaa.Rows.uptoBulkAll]
  lcons := fun H d l => by simp [bk, bkl, Go.Proofs.Ytiifbdkedainnaa.Rows.uptoBulkAll]

theorem laidOut : laidOutB Try.prog = true := by kernel_rfl
theorem own : ownKnob Try.prog.godebug = none := by kernel_rfl
theorem len1 {α : Type} {l : List α} (h : l.length = 1) : ∃ a, l = [a] := by
  match l, h with | [a], _ => exact ⟨a, rfl⟩
theorem bulk_bound {H : Type} {l : List (DataW H)} (hk : Go.Proofs.Ytiifbdkedainnaa.Rows.uptoSmall H l = true) : bkl H l ≤ 1048576 := of_decide_eq_true hk
end Go.Proofs.Ytiifbdkedainnaa.Y

set_option maxRecDepth 20000
set_option linter.unusedVariables false
set_option linter.unusedSimpArgs false
namespace Go.Proofs.Ytiifbdkedainnaa.Y
open Go.Proofs.Ytiifbdkedainnaa.AL Go.Proofs Go
attribute [local irreducible] AWP AWL AWG AWR AWE AWX AWO AWSeq AWSG AWSR AWSO AWSE AWSF GoodP OGW OGR OGE OGX PGW PGR PGE Wk AWLoop AWPD AWLD
theorem rdE : ∀ n, Rd Try.prog bk n 71 encE nodes (fun _ => True) := by
  intro n
  induction n with
  | zero => exact Rd.zero
  | succ n ih =>
    intro H e w sp hd fuel cs x hn h hlt
    obtain ⟨xs, m, hm, hc, hx, hb, hf, hl⟩ := trod_fields bulk Try.underlying71 hn h hlt
    rw [show Try.prog.cellsOf 71 = 4 from by kernel_rfl] at hc
    obtain ⟨x0, x1, x2, x3, rfl⟩ : ∃ x0 x1 x2 x3, xs = [x0, x1, x2, x3] := by
      match xs, hx with | [x0, x1, x2, x3], _ => exact ⟨x0, x1, x2, x3, rfl⟩
    obtain ⟨c0, c1, c2, c3, rfl⟩ : ∃ c0 c1 c2 c3, cs = [c0, c1, c2, c3] := by
      match cs, hc with | [c0, c1, c2, c3], _ => exact ⟨c0, c1, c2, c3, rfl⟩
    simp only [List.map_cons, List.map_nil, bulk.lcons, bulk.lnil] at hb
    have f0 := hf 0 _ rfl
    have f1 := hf 1 _ rfl
    have f2 := hf 2 _ rfl
    have f3 := hf 3 _ rfl
    simp only [show Try.prog.cellsOf 69 = 1 from by kernel_rfl, show Try.prog.cellsOf 3 = 1 from by kernel_rfl, List.drop_zero, List.drop_succ_cons, List.take_succ_cons, List.take_zero, List.getElem?_cons_zero, List.getElem?_cons_succ] at f0 f1 f2 f3
    obtain ⟨a0, r0, m0, p0⟩ := (Rd.int bulk (n := n) Try.underlying3) hm f0 (hl x0 (by simp))
    obtain ⟨a1, r1, m1, p1⟩ := (Rd.int bulk (n := n) Try.underlying3) hm f1 (hl x1 (by simp))
    obtain ⟨a2, r2, m2, p2⟩ := (Rd.int bulk (n := n) Try.underlying3) hm f2 (hl x2 (by simp))
    obtain ⟨a3, r3, m3, p3⟩ := (Rd.le (Rd.slice bulk (n := n) Try.underlying69 (by kernel_rfl) (by decide) ih encE_len) (Nat.le_succ n)) hm f3 (hl x3 (by simp))
    (try dsimp only at m0); (try dsimp only at m1); (try dsimp only at m2); (try dsimp only at m3)
    refine ⟨.mk a0 a1 a2 a3, ?_, ?_, trivial⟩
    · rw [encE_eq]; exact r0.append (r1.append (r2.append (r3)))
    · rw [nodes_eq]; simp only [Ex.kids, nodesL_sum]; omega
theorem rdS : ∀ n, Rd Try.prog bk n 73 encS wS (fun _ => True) := by
  intro n
  induction n with
  | zero => exact Rd.zero
  | succ n ih =>
    intro H e w sp hd fuel cs x hn h hlt
    obtain ⟨xs, m, hm, hc, hx, hb, hf, hl⟩ := trod_fields bulk Try.underlying73 hn h hlt
    rw [show Try.prog.cellsOf 73 = 13 from by kernel_rfl] at hc
    obtain ⟨x0, x1, x2, x3, x4, x5, x6, rfl⟩ : ∃ x0 x1 x2 x3 x4 x5 x6, xs = [x0, x1, x2, x3, x4, x5, x6] := by
      match xs, hx with | [x0, x1, x2, x3, x4, x5, x6], _ => exact ⟨x0, x1, x2, x3, x4, x5, x6, rfl⟩
    obtain ⟨c0, c1, c2, c3, c4, c5, c6, c7, c8, c9, c10, c11, c12, rfl⟩ : ∃ c0 c1 c2 c3 c4 c5 c6 c7 c8 c9 c10 c11 c12, cs = [c0, c1, c2, c3, c4, c5, c6, c7, c8, c9, c10, c11, c12] := by
      match cs, hc with | [c0, c1, c2, c3, c4, c5, c6, c7, c8, c9, c10, c11, c12], _ => exact ⟨c0, c1, c2, c3, c4, c5, c6, c7, c8, c9, c10, c11, c12, rfl⟩
    simp only [List.map_cons, List.map_nil, bulk.lcons, bulk.lnil] at hb
    have f0 := hf 0 _ rfl
    have f1 := hf 1 _ rfl
    have f2 := hf 2 _ rfl
    have f3 := hf 3 _ rfl
    have f4 := hf 4 _ rfl
    have f5 := hf 5 _ rfl
    have f6 := hf 6 _ rfl
    simp only [show Try.prog.cellsOf 23 = 1 from by kernel_rfl, show Try.prog.cellsOf 71 = 4 from by kernel_rfl, show Try.prog.cellsOf 3 = 1 from by kernel_rfl, List.drop_zero, List.drop_succ_cons, List.take_succ_cons, List.take_zero, List.getElem?_cons_zero, List.getElem?_cons_succ] at f0 f1 f2 f3 f4 f5 f6
    obtain ⟨a0, r0, m0, p0⟩ := (Rd.int bulk (n := n) Try.underlying3) hm f0 (hl x0 (by simp))
    obtain ⟨a1, r1, m1, p1⟩ := (Rd.int bulk (n := n) Try.underlying3) hm f1 (hl x1 (by simp))
    obtain ⟨a2, r2, m2, p2⟩ := (Rd.int bulk (n := n) Try.underlying3) hm f2 (hl x2 (by simp))
    obtain ⟨a3, r3, m3, p3⟩ := (rdE n) hm f3 (hl x3 (by simp))
    obtain ⟨a4, r4, m4, p4⟩ := (rdE n) hm f4 (hl x4 (by simp))
    obtain ⟨a5, r5, m5, p5⟩ := (Rd.le (Rd.slice bulk (n := n) Try.underlying23 (by kernel_rfl) (by decide) ih encS_len) (Nat.le_succ n)) hm f5 (hl x5 (by simp))
    obtain ⟨a6, r6, m6, p6⟩ := (Rd.le (Rd.slice bulk (n := n) Try.underlying23 (by kernel_rfl) (by decide) ih encS_len) (Nat.le_succ n)) hm f6 (hl x6 (by simp))
    (try dsimp only at m0); (try dsimp only at m1); (try dsimp only at m2); (try dsimp only at m3); (try dsimp only at m4); (try dsimp only at m5); (try dsimp only at m6)
    refine ⟨.mk a0 a1 a2 a3 a4 a5 a6, ?_, ?_, trivial⟩
    · rw [encS_eq]; rw [encE_eq] at r3 r4; exact r0.append (r1.append (r2.append (r3.append (r4.append (r5.append (r6))))))
    · rw [wS_eq]; simp only [St.a, St.b, St.thn, St.els, wSL_sum]; omega
theorem rdV : ∀ n, Rd Try.prog bk n 55 encV wV (fun _ => True) := by
  intro n
  induction n with
  | zero => exact Rd.zero
  | succ n ih =>
    intro H e w sp hd fuel cs x hn h hlt
    obtain ⟨xs, m, hm, hc, hx, hb, hf, hl⟩ := trod_fields bulk Try.underlying55 hn h hlt
    rw [show Try.prog.cellsOf 55 = 5 from by kernel_rfl] at hc
    obtain ⟨x0, x1, x2, x3, x4, rfl⟩ : ∃ x0 x1 x2 x3 x4, xs = [x0, x1, x2, x3, x4] := by
      match xs, hx with | [x0, x1, x2, x3, x4], _ => exact ⟨x0, x1, x2, x3, x4, rfl⟩
    obtain ⟨c0, c1, c2, c3, c4, rfl⟩ : ∃ c0 c1 c2 c3 c4, cs = [c0, c1, c2, c3, c4] := by
      match cs, hc with | [c0, c1, c2, c3, c4], _ => exact ⟨c0, c1, c2, c3, c4, rfl⟩
    simp only [List.map_cons, List.map_nil, bulk.lcons, bulk.lnil] at hb
    have f0 := hf 0 _ rfl
    have f1 := hf 1 _ rfl
    have f2 := hf 2 _ rfl
    have f3 := hf 3 _ rfl
    have f4 := hf 4 _ rfl
    simp only [show Try.prog.cellsOf 3 = 1 from by kernel_rfl, show Try.prog.cellsOf 9 = 1 from by kernel_rfl, List.drop_zero, List.drop_succ_cons, List.take_succ_cons, List.take_zero, List.getElem?_cons_zero, List.getElem?_cons_succ] at f0 f1 f2 f3 f4
    obtain ⟨a0, r0, m0, p0⟩ := (Rd.str bulk (n := n) Try.underlying9) hm f0 (hl x0 (by simp))
    obtain ⟨a1, r1, m1, p1⟩ := (Rd.int bulk (n := n) Try.underlying3) hm f1 (hl x1 (by simp))
    obtain ⟨a2, r2, m2, p2⟩ := (Rd.int bulk (n := n) Try.underlying3) hm f2 (hl x2 (by simp))
    obtain ⟨a3, r3, m3, p3⟩ := (Rd.int bulk (n := n) Try.underlying3) hm f3 (hl x3 (by simp))
    obtain ⟨a4, r4, m4, p4⟩ := (Rd.int bulk (n := n) Try.underlying3) hm f4 (hl x4 (by simp))
    (try dsimp only at m0); (try dsimp only at m1); (try dsimp only at m2); (try dsimp only at m3); (try dsimp only at m4)
    refine ⟨⟨a0, a1, a2, a3, a4⟩, ?_, ?_, trivial⟩
    · exact r0.append (r1.append (r2.append (r3.append (r4))))
    · simp only [wV]; omega
end Go.Proofs.Ytiifbdkedainnaa.Y

set_option maxRecDepth 20000
set_option linter.unusedVariables false
set_option linter.unusedSimpArgs false
namespace Go.Proofs.Ytiifbdkedainnaa.Y
open Go.Proofs.Ytiifbdkedainnaa.AL Go.Proofs Go
attribute [local irreducible] AWP AWL AWG AWR AWE AWX AWO AWSeq AWSG AWSR AWSO AWSE AWSF GoodP OGW OGR OGE OGX PGW PGR PGE Wk AWLoop AWPD AWLD
abbrev On5 := List St × List St × List St × List St × List St
def encOn (o : On5) : List PV := [.rs 13 (o.1.map encS), .rs 13 (o.2.1.map encS), .rs 13 (o.2.2.1.map encS), .rs 13 (o.2.2.2.1.map encS), .rs 13 (o.2.2.2.2.map encS)]
def wOn (o : On5) : Nat := wSL o.1 + wSL o.2.1 + wSL o.2.2.1 + wSL o.2.2.2.1 + wSL o.2.2.2.2
theorem rdSs (n : Nat) : Rd Try.prog bk n 23 (fun l : List St => [.rs 13 (l.map encS)]) (fun l => sumM wS l + 1) (fun l => ∀ a ∈ l, True) :=
  Rd.le (Rd.slice bulk (n := n) Try.underlying23 (by kernel_rfl) (by decide) (rdS n) encS_len) (Nat.le_succ n)
theorem rdVs (n : Nat) : Rd Try.prog bk n 22 (fun l : List Vr => [.rs 5 (l.map encV)]) (fun l => sumM wV l + 1) (fun l => ∀ a ∈ l, True) :=
  Rd.le (Rd.slice bulk (n := n) Try.underlying22 (by kernel_rfl) (by decide) (rdV n) (fun _ => rfl)) (Nat.le_succ n)
theorem rdOn : ∀ n, Rd Try.prog bk n 24 encOn wOn (fun _ => True) := by
  intro n
  cases n with
  | zero => exact Rd.zero
  | succ n =>
    intro H e w sp hd fuel cs x hn h hlt
    obtain ⟨xs, m, hm, hc, hx, hb, hf, hl⟩ := trod_items bulk Try.underlying24 hn h hlt
    rw [show Try.prog.cellsOf 24 = 5 from by kernel_rfl] at hc
    obtain ⟨x0, x1, x2, x3, x4, rfl⟩ : ∃ x0 x1 x2 x3 x4, xs = [x0, x1, x2, x3, x4] := by
      match xs, hx with | [x0, x1, x2, x3, x4], _ => exact ⟨x0, x1, x2, x3, x4, rfl⟩
    obtain ⟨c0, c1, c2, c3, c4, rfl⟩ : ∃ c0 c1 c2 c3 c4, cs = [c0, c1, c2, c3, c4] := by
      match cs, hc with | [c0, c1, c2, c3, c4], _ => exact ⟨c0, c1, c2, c3, c4, rfl⟩
    simp only [List.map_cons, List.map_nil, bulk.lcons, bulk.lnil] at hb
    have f0 := hf 0 (by omega)
    have f1 := hf 1 (by omega)
    have f2 := hf 2 (by omega)
    have f3 := hf 3 (by omega)
    have f4 := hf 4 (by omega)
    simp only [show Try.prog.cellsOf 23 = 1 from by kernel_rfl, Nat.reduceMul, List.drop_zero, List.drop_succ_cons, List.take_succ_cons, List.take_zero, List.getElem?_cons_zero, List.getElem?_cons_succ] at f0 f1 f2 f3 f4
    obtain ⟨a0, r0, m0, p0⟩ := rdSs n hm f0 (hl x0 (by simp))
    obtain ⟨a1, r1, m1, p1⟩ := rdSs n hm f1 (hl x1 (by simp))
    obtain ⟨a2, r2, m2, p2⟩ := rdSs n hm f2 (hl x2 (by simp))
    obtain ⟨a3, r3, m3, p3⟩ := rdSs n hm f3 (hl x3 (by simp))
    obtain ⟨a4, r4, m4, p4⟩ := rdSs n hm f4 (hl x4 (by simp))
    dsimp only at m0 m1 m2 m3 m4
    refine ⟨(a0, a1, a2, a3, a4), r0.append (r1.append (r2.append (r3.append r4))), ?_, trivial⟩
    simp only [wOn, wSL_sum]; omega
theorem rdP : ∀ n, Rd Try.prog bk n 26 encP wP (fun _ => True) := by
  intro n
  induction n with
  | zero => exact Rd.zero
  | succ n ih =>
    intro H e w sp hd fuel cs x hn h hlt
    obtain ⟨xs, m, hm, hc, hx, hb, hf, hl⟩ := trod_fields bulk Try.underlying26 hn h hlt
    rw [show Try.prog.cellsOf 26 = 9 from by kernel_rfl] at hc
    obtain ⟨x0, x1, x2, x3, x4, rfl⟩ : ∃ x0 x1 x2 x3 x4, xs = [x0, x1, x2, x3, x4] := by
      match xs, hx with | [x0, x1, x2, x3, x4], _ => exact ⟨x0, x1, x2, x3, x4, rfl⟩
    obtain ⟨c0, c1, c2, c3, c4, c5, c6, c7, c8, rfl⟩ : ∃ c0 c1 c2 c3 c4 c5 c6 c7 c8, cs = [c0, c1, c2, c3, c4, c5, c6, c7, c8] := by
      match cs, hc with | [c0, c1, c2, c3, c4, c5, c6, c7, c8], _ => exact ⟨c0, c1, c2, c3, c4, c5, c6, c7, c8, rfl⟩
    simp only [List.map_cons, List.map_nil, bulk.lcons, bulk.lnil] at hb
    have f0 := hf 0 _ rfl
    have f1 := hf 1 _ rfl
    have f2 := hf 2 _ rfl
    have f3 := hf 3 _ rfl
    have f4 := hf 4 _ rfl
    simp only [show Try.prog.cellsOf 24 = 5 from by kernel_rfl, show Try.prog.cellsOf 22 = 1 from by kernel_rfl, show Try.prog.cellsOf 3 = 1 from by kernel_rfl, show Try.prog.cellsOf 9 = 1 from by kernel_rfl, List.drop_zero, List.drop_succ_cons, List.take_succ_cons, List.take_zero, List.getElem?_cons_zero, List.getElem?_cons_succ] at f0 f1 f2 f3 f4
    obtain ⟨a0, r0, m0, p0⟩ := (Rd.str bulk (n := n) Try.underlying9) hm f0 (hl x0 (by simp))
    obtain ⟨a1, r1, m1, p1⟩ := (rdVs n) hm f1 (hl x1 (by simp))
    obtain ⟨a2, r2, m2, p2⟩ := (rdOn n) hm f2 (hl x2 (by simp))
    obtain ⟨a3, r3, m3, p3⟩ := (Rd.int bulk (n := n) Try.underlying3) hm f3 (hl x3 (by simp))
    obtain ⟨a4, r4, m4, p4⟩ := (Rd.int bulk (n := n) Try.underlying3) hm f4 (hl x4 (by simp))
    (try dsimp only at m0); (try dsimp only at m1); (try dsimp only at m2); (try dsimp only at m3); (try dsimp only at m4)
    refine ⟨⟨a0, a1, a2.1, a2.2.1, a2.2.2.1, a2.2.2.2.1, a2.2.2.2.2, a3, a4⟩, ?_, ?_, trivial⟩
    · exact r0.append (r1.append (r2.append (r3.append (r4))))
    · simp only [wP]; simp only [wOn] at m2; omega
end Go.Proofs.Ytiifbdkedainnaa.Y

set_option maxRecDepth 20000
set_option linter.unusedVariables false
set_option linter.unusedSimpArgs false
namespace Go.Proofs.Ytiifbdkedainnaa.Y
open Go.Proofs.Ytiifbdkedainnaa.AL Go.Proofs Go
attribute [local irreducible] AWP AWL AWG AWR AWE AWX AWO AWSeq AWSG AWSR AWSO AWSE AWSF GoodP OGW OGR OGE OGX PGW PGR PGE Wk AWLoop AWPD AWLD
theorem rdIn : ∀ n, Rd Try.prog bk n 41 encI (fun _ => 1) (fun _ => True) := by
  intro n
  induction n with
  | zero => exact Rd.zero
  | succ n ih =>
    intro H e w sp hd fuel cs x hn h hlt
    obtain ⟨xs, m, hm, hc, hx, hb, hf, hl⟩ := trod_fields bulk Try.underlying41 hn h hlt
    rw [show Try.prog.cellsOf 41 = 3 from by kernel_rfl] at hc
    obtain ⟨x0, x1, x2, rfl⟩ : ∃ x0 x1 x2, xs = [x0, x1, x2] := by
      match xs, hx with | [x0, x1, x2], _ => exact ⟨x0, x1, x2, rfl⟩
    obtain ⟨c0, c1, c2, rfl⟩ : ∃ c0 c1 c2, cs = [c0, c1, c2] := by
      match cs, hc with | [c0, c1, c2], _ => exact ⟨c0, c1, c2, rfl⟩
    simp only [List.map_cons, List.map_nil, bulk.lcons, bulk.lnil] at hb
    have f0 := hf 0 _ rfl
    have f1 := hf 1 _ rfl
    have f2 := hf 2 _ rfl
    simp only [show Try.prog.cellsOf 3 = 1 from by kernel_rfl, List.drop_zero, List.drop_succ_cons, List.take_succ_cons, List.take_zero, List.getElem?_cons_zero, List.getElem?_cons_succ] at f0 f1 f2
    obtain ⟨a0, r0, m0, p0⟩ := (Rd.int bulk (n := n) Try.underlying3) hm f0 (hl x0 (by simp))
    obtain ⟨a1, r1, m1, p1⟩ := (Rd.int bulk (n := n) Try.underlying3) hm f1 (hl x1 (by simp))
    obtain ⟨a2, r2, m2, p2⟩ := (Rd.int bulk (n := n) Try.underlying3) hm f2 (hl x2 (by simp))
    (try dsimp only at m0); (try dsimp only at m1); (try dsimp only at m2)
    refine ⟨⟨a0, a1, a2⟩, ?_, ?_, trivial⟩
    · exact r0.append (r1.append (r2))
    · dsimp only; omega
theorem rdIns (n : Nat) : Rd Try.prog bk n 27 (fun l : List Ins => [.rs 3 (l.map encI)]) (fun l => sumM (fun _ => 1) l + 1) (fun l => ∀ a ∈ l, True) :=
  Rd.le (Rd.slice bulk (n := n) Try.underlying27 (by kernel_rfl) (by decide) (rdIn n) (fun _ => rfl)) (Nat.le_succ n)
def wI (l : List Ins) : Nat := sumM (fun _ => 1) l + 1
theorem wI_len (l : List Ins) : l.length < wI l := by
  have : ∀ l : List Ins, sumM (fun _ => 1) l = l.length := by
    intro l; induction l with
    | nil => rfl
    | cons x xs ih => simp only [sumM, List.length_cons, ih]; omega
  unfold wI; rw [this]; omega
def wCd (c : Cod) : Nat := wI c.c0 + wI c.c1 + wI c.c2 + wI c.c3 + wI c.c4
abbrev cCod (c : Cod) : List PV := [.rs 3 (c.c0.map encI), .rs 3 (c.c1.map encI), .rs 3 (c.c2.map encI), .rs 3 (c.c3.map encI), .rs 3 (c.c4.map encI)]
theorem rdC5 : ∀ n, Rd Try.prog bk n 28 cCod wCd (fun _ => True) := by
  intro n
  cases n with
  | zero => exact Rd.zero
  | succ n =>
    intro H e w sp hd fuel cs x hn h hlt
    obtain ⟨xs, m, hm, hc, hx, hb, hf, hl⟩ := trod_items bulk Try.underlying28 hn h hlt
    rw [show Try.prog.cellsOf 28 = 5 from by kernel_rfl] at hc
    obtain ⟨x0, x1, x2, x3, x4, rfl⟩ : ∃ x0  x1  x2  x3  x4, xs = [x0, x1, x2, x3, x4] := by
      match xs, hx with | [x0, x1, x2, x3, x4], _ => exact ⟨x0, x1, x2, x3, x4, rfl⟩
    obtain ⟨c0, c1, c2, c3, c4, rfl⟩ : ∃ c0  c1  c2  c3  c4, cs = [c0, c1, c2, c3, c4] := by
      match cs, hc with | [c0, c1, c2, c3, c4], _ => exact ⟨c0, c1, c2, c3, c4, rfl⟩
    simp only [List.map_cons, List.map_nil, bulk.lcons, bulk.lnil] at hb
    have f0 := hf 0 (by omega)
    have f1 := hf 1 (by omega)
    have f2 := hf 2 (by omega)
    have f3 := hf 3 (by omega)
    have f4 := hf 4 (by omega)
    simp only [show Try.prog.cellsOf 27 = 1 from by kernel_rfl, Nat.reduceMul, List.drop_zero, List.drop_succ_cons, List.take_succ_cons, List.take_zero, List.getElem?_cons_zero, List.getElem?_cons_succ] at f0 f1 f2 f3 f4
    obtain ⟨a0, r0, m0, p0⟩ := rdIns n hm f0 (hl x0 (by simp))
    obtain ⟨a1, r1, m1, p1⟩ := rdIns n hm f1 (hl x1 (by simp))
    obtain ⟨a2, r2, m2, p2⟩ := rdIns n hm f2 (hl x2 (by simp))
    obtain ⟨a3, r3, m3, p3⟩ := rdIns n hm f3 (hl x3 (by simp))
    obtain ⟨a4, r4, m4, p4⟩ := rdIns n hm f4 (hl x4 (by simp))
    dsimp only at m0 m1 m2 m3 m4
    refine ⟨⟨a0, a1, a2, a3, a4⟩, r0.append (r1.append (r2.append (r3.append (r4)))), ?_, trivial⟩
    simp only [wCd, wI]; omega
theorem rdC : ∀ n, Rd Try.prog bk n 30 cCod wCd (fun _ => True) := by
  intro n
  induction n with
  | zero => exact Rd.zero
  | succ n ih =>
    intro H e w sp hd fuel cs x hn h hlt
    obtain ⟨xs, m, hm, hc, hx, hb, hf, hl⟩ := trod_fields bulk Try.underlying30 hn h hlt
    rw [show Try.prog.cellsOf 30 = 5 from by kernel_rfl] at hc
    obtain ⟨x0, rfl⟩ : ∃ x0, xs = [x0] := by
      match xs, hx with | [x0], _ => exact ⟨x0, rfl⟩
    obtain ⟨c0, c1, c2, c3, c4, rfl⟩ : ∃ c0 c1 c2 c3 c4, cs = [c0, c1, c2, c3, c4] := by
      match cs, hc with | [c0, c1, c2, c3, c4], _ => exact ⟨c0, c1, c2, c3, c4, rfl⟩
    simp only [List.map_cons, List.map_nil, bulk.lcons, bulk.lnil] at hb
    have f0 := hf 0 _ rfl
    simp only [show Try.prog.cellsOf 28 = 5 from by kernel_rfl, List.drop_zero, List.drop_succ_cons, List.take_succ_cons, List.take_zero, List.getElem?_cons_zero, List.getElem?_cons_succ] at f0
    obtain ⟨a0, r0, m0, p0⟩ := (rdC5 n) hm f0 (hl x0 (by simp))
    (try dsimp only at m0)
    refine ⟨a0, ?_, ?_, trivial⟩
    · exact r0
    · omega
theorem u8wf2 {n : Int} (h : (Lit.int .u8 n).wf = true) : 0 ≤ n ∧ n ≤ 255 := by
  simpa [Lit.wf, IntKind.min, IntKind.max, IntKind.signed, IntKind.bits] using h
theorem u16wf2 {n : Int} (h : (Lit.int .u16 n).wf = true) : 0 ≤ n ∧ n ≤ 65535 := by
  simpa [Lit.wf, IntKind.min, IntKind.max, IntKind.signed, IntKind.bits] using h
theorem rdBs (n : Nat) : Rd Try.prog bk n 39 (fun l : List Bool => [.rs 1 (l.map fun b => [.sc (.bool b)])]) (fun l => sumM (fun _ => 1) l + 1) (fun l => ∀ a ∈ l, True) :=
  Rd.le (Rd.slice bulk (n := n) Try.underlying39 (by kernel_rfl) (by decide) (Rd.bool bulk (n := n) Try.underlying4) (fun _ => rfl)) (Nat.le_succ n)
end Go.Proofs.Ytiifbdkedainnaa.Y

namespace Go.Proofs.Ytiifbdkedainnaa.Y
open Go.Proofs.Ytiifbdkedainnaa.AL Go.Proofs Go
attribute [local irreducible] AWP AWL AWG AWR AWE AWX AWO AWSeq AWSG AWSR AWSO AWSE AWSF GoodP OGW OGR OGE OGX PGW PGR PGE Wk AWLoop AWPD AWLD
/-- No package variable is read. -/
theorem gtabW (W : World) : GRel W (Old W) := fun g cells h => by cases h
end Go.Proofs.Ytiifbdkedainnaa.Y
